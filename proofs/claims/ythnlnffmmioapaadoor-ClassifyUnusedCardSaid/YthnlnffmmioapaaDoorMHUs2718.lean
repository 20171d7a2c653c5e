/-
  Part 18 of the proof: Ch27. No statement of the seat is proved here.
-/
import Derived.Test.YthnlnffmmioapaaDoorMHUs2717
namespace Go.Proofs.YthnlnffmmioapaaDoor
open Go.RowKit
section
variable {P : Program} {n : Nat} {w0 : World} {K : Fm → List Res → Prop} {F : Fm} {L : List Res} {m : Md} {Lw : List Res} {ops : Array Oper} {rest : List Oper} {d : Option Nat} {ty : TypeId} {pos : String} {aft : Array Edge}
theorem Hp.setByte {B : Nat} {w : World} {L : List Res} (hp : Hp B w0 w L) (i : Nat) {g k : Nat} {b : UInt8} {s : List UInt8} (hi : L[i]? = some (.obj g (BytesW s))) (hk : k < s.length) : Hp B w0 (w.setCell ⟨g, k, .none⟩ (.int .u8 (b.toNat : Int))) (L.set i (.obj g (BytesW (s.set k b)))) := by
  obtain ⟨hB, o, ho, C, e, lo, hi', rfl, hl, hC⟩ : B ≤ g ∧ ∃ o, w.heap[g]? = some o ∧ BytesW s o := hp.ok _ (List.mem_of_getElem? hi)
  refine hp.turn hi (r' := .obj g (BytesW (s.set k b))) ⟨rfl, rfl, rfl, by simp, fun j _ hj => heap_setCell_other w ⟨g, k, .none⟩ j _ (fun e => hj (by simp [Res.blk, e]))⟩ ⟨hB, .cells (C.setIfInBounds k (.int .u8 (b.toNat : Int))) e (lo, hi'), by simp [World.setCell, Array.getElem?_modify, ho], _, _, _, _, rfl, by rw [List.length_set]; exact hl, ?_⟩ (fun j hj => .inl hj)
  intro j c hj
  have hkC : k < C.size := by
    have := hC k (s.getD k 0) (by rw [getD_lt _ _ _ hk]; exact List.getElem?_eq_getElem hk)
    exact (Array.getElem?_eq_some_iff.1 this).1
  by_cases hjk : k = j
  · subst hjk
    rw [List.getElem?_set_self hk] at hj
    cases hj
    rw [Array.getElem?_setIfInBounds_self, if_pos hkC]
  · rw [List.getElem?_set_ne hjk] at hj
    rw [Array.getElem?_setIfInBounds_ne hjk]
    exact hC j c hj
theorem Hp.setBytes {B : Nat} : ∀ (N : Nat) {w : World} {L : List Res} (_ : Hp B w0 w L) (i : Nat) {g o : Nat} {s : List UInt8} (_ : L[i]? = some (.obj g (BytesW s))) (_ : o + N ≤ s.length),
    ∃ s', s'.length = s.length ∧ s'.take o = s.take o ∧ Hp B w0 (w.setCells g o (List.replicate N (.int .u8 0))) (L.set i (.obj g (BytesW s')))
  | 0, w, L, hp, i, g, o, s, hi, ho => ⟨s, rfl, rfl, by
      have : L.set i (.obj g (BytesW s)) = L := by
        apply List.ext_getElem?
        intro j
        rw [List.getElem?_set]
        split
        · rename_i e; subst e
          split
          · exact hi.symm
          · rw [List.getElem?_eq_none (by omega)]
        · rfl
      rw [this]
      exact hp⟩
  | N + 1, w, L, hp, i, g, o, s, hi, ho => by
    have hil := (List.getElem?_eq_some_iff.1 hi).1
    have h1 := hp.setByte i (k := o) (b := 0) hi (by omega)
    obtain ⟨s', h2, h3, h4⟩ := Hp.setBytes N h1 i (g := g) (o := o + 1) (s := s.set o 0) (List.getElem?_set_self hil) (by rw [List.length_set];omega)
    refine ⟨s', by rw [h2, List.length_set], ?_, ?_⟩
    · have := congrArg (List.take o) h3
      rw [List.take_take, List.take_take, Nat.min_eq_left (by omega)] at this
      rw [this, List.take_set_of_le (Nat.le_refl _)]
    · rw [List.set_set] at h4
      exact h4
theorem OKx_clearW7 {t e bytes : Nat} {z : Value} [T : TSlice P t e 1 bytes z] [hE : Keeps w0 L Lw] (i : Nat) {x : Operand} {g o k c : Nat} {s : List UInt8} (hx : rv n F x = .slice (some ⟨g, o, none⟩) k c) (hi : L[i]? = some (.obj g (BytesW s)))
    (hz : ∀ w, (zeroValue e).run P w = .ok (.int .u8 0) w) (hk : 0 < k) (ho : o + k ≤ s.length)
    (kk : ∀ s', s'.length = s.length → s'.take o = s.take o → OKx P n w0 (.seq Lw) ops K rest (updo F d (.tuple #[])) (L.set i (.obj g (BytesW s')))) :
    OKx P n w0 (.seq Lw) ops K (⟨d, .call { callee := .builtin .clear, args := #[x], argTypes := #[t] }, ty, pos, aft, none⟩ :: rest) F L := by
  refine OKx_actW hE.ent fun w a hfr hp => ?_
  have hrun := Lib.run_clear_slice (P := P) w t e ty (.int .u8 0) T.ty.und hz rfl rfl g o k c hk (fun j hj => by rw [(hp.bytesW i hi (show o + j < s.length by omega)).1]; rfl) (fun j hj => (hp.bytesW i hi (show o + j < s.length by omega)).2)
  obtain ⟨s', h1, h2, h3⟩ := hp.setBytes k i hi ho
  have e1 : a.eval x = .slice (some ⟨g, o, none⟩) k c := by rw [hfr.eval]; exact hx
  unfold Oper.wp
  simp [execOp, resolve, invoke, builtin, e1, hrun, Result.andThen]
  exact (kk s' h1 h2).use _ _ (hfr.put d _) h3
end
theorem wrapU8 (a : Int) (h1 : 0 ≤ a) (h2 : a ≤ 255) : IntKind.u8.wrap a = a := by
  have e1 : IntKind.u8.min = 0 := rfl
  have e2 : IntKind.u8.max = 255 := rfl
  simp only [IntKind.wrap]
  simp [IntKind.signed, IntKind.bits]
  omega
theorem foldC_nat (c : UInt8) : (foldC c).toNat = if 65 ≤ c.toNat ∧ c.toNat ≤ 90 then c.toNat + 32 else c.toNat := by
  unfold foldC
  by_cases h : 65 ≤ c ∧ c ≤ 90
  · have h1 : 65 ≤ c.toNat ∧ c.toNat ≤ 90 := ⟨UInt8.le_iff_toNat_le.1 h.1, UInt8.le_iff_toNat_le.1 h.2⟩
    rw [if_pos h, if_pos h1, UInt8.toNat_add]
    show (c.toNat + 32) % 256 = _
    omega
  · have h1 : ¬(65 ≤ c.toNat ∧ c.toNat ≤ 90) := fun h1 => h ⟨UInt8.le_iff_toNat_le.2 h1.1, UInt8.le_iff_toNat_le.2 h1.2⟩
    rw [if_neg h, if_neg h1]
def fldK (s : List UInt8) (k : Nat) : List UInt8 := (s.take k).map foldC ++ s.drop k
theorem fldK_len (s : List UInt8) (k : Nat) : (fldK s k).length = s.length := by unfold fldK; simp;omega
theorem fldK_at (s : List UInt8) (k : Nat) (h : k < s.length) : (fldK s k).getD k 0 = s.getD k 0 := by
  unfold fldK
  rw [List.getD_eq_getElem?_getD, List.getElem?_append_right (by simp;omega), List.getD_eq_getElem?_getD]
  simp [Nat.min_eq_left (Nat.le_of_lt h)]
theorem fldK_step (s : List UInt8) (k : Nat) (h : k < s.length) : (fldK s k).set k (foldC (s.getD k 0)) = fldK s (k + 1) := by
  unfold fldK
  have hl : ((s.take k).map foldC).length = k := by simp;omega
  rw [List.take_succ_eq_append_getElem h, List.map_append, List.set_append, if_neg (by omega), hl, List.drop_eq_getElem_cons h, Nat.sub_self, List.set_cons_zero, getD_lt _ _ _ h, List.append_assoc]
  rfl
theorem fldK_same (s : List UInt8) (k : Nat) (h : k < s.length) (hc : foldC (s.getD k 0) = s.getD k 0) : fldK s k = fldK s (k + 1) := by
  rw [← fldK_step s k h, hc, ← fldK_at s k h]
  rw [List.getD_eq_getElem?_getD, List.getElem?_eq_getElem (by rw [fldK_len]; exact h)]
  simp
set_option maxRecDepth 100000 in
set_option maxHeartbeats 4000000 in
theorem Fold_sat (s : List UInt8) (w : World) (hs : s.length ≤ 140737488355328) : SatV Tryd.prog 150 [.string (bOf s)] w (.string (bOf (s.map foldC))) := by
  refine SatL.of 30 [2] Tryd.func150 (by kernel_rfl) (by kernel_rfl) rfl rfl rfl rfl ?_
  repeat' (first|(apply OK_seq)|(apply thenQ_n)|(apply OK_region)|(refine OKx_convSW rfl (by kernel_rfl) Tryd.underlying101 (by kernel_rfl) ?_; intro g c hc)|(apply OKx_nilK)|(apply OK_block)|(apply blockQ_n)|(apply blockQ_s)|(apply thenQ_e)|(apply blockQ_e;exact rfl)|(apply thenQ_r)|(apply blockQ_r)|(apply OK_condT;exact rfl)|(apply OK_condF;exact rfl)|(apply OK_skip)|(apply OK_exit)|(apply OK_ret)|(apply OKx_move;(conv=>lhs;whnf)<;>exact rfl)|(apply OKx_assign;(conv=>lhs;whnf)<;>exact rfl)|(apply OKx_ldB;exact rfl;(first | exact at0|exact at1|exact at2|exact at3|exact at4|exact at5|exact at6|exact at7);exact rfl)|(apply OKx_ldR;(conv=>lhs;whnf)<;>exact rfl;(with_reducible assumption))|(apply OKx_ldI;exact rfl;(first | exact at0|exact at1|exact at2|exact at3|exact at4|exact at5|exact at6|exact at7);omega)|(apply OKx_len;exact rfl)|(apply OKx_lenR;(conv=>lhs;whnf)<;>exact rfl;(with_reducible assumption))|(apply OKx_lenR2;(conv=>lhs;whnf)<;>exact rfl;(with_reducible assumption))|(apply OKx_lenO;(conv=>lhs;whnf)<;>exact rfl;(first | exact at0|exact at1|exact at2|exact at3|exact at4|exact at5|exact at6|exact at7))|(apply OKx_lss;exact rfl;exact rfl;all_goals (intro _; try (exfalso;omega)))|(apply OKx_leq;exact rfl;exact rfl;all_goals (intro _; try (exfalso;omega)))|(apply OKx_geq;exact rfl;exact rfl;all_goals (intro _; try (exfalso;omega)))|(apply OKx_idxO;exact rfl;exact rfl;omega)|(apply OKx_idxR;(conv=>lhs;whnf)<;>exact rfl;(with_reducible assumption);exact rfl;omega;intro _ _)|(apply OKx_idxOz;exact rfl;exact rfl;omega;omega)|(apply OKx_idxRz;(conv=>lhs;whnf)<;>exact rfl;(with_reducible assumption);exact rfl;omega;omega;intro _ _)|(apply OKx_inc;exact rfl;exact rfl;omega)|(apply OKx_addN;exact rfl;exact rfl;omega)|(apply OKx_add;exact rfl;exact rfl;omega;omega)|(apply OKx_dec;exact rfl;exact rfl;omega;omega)|(apply OKx_subN;exact rfl;exact rfl;omega;omega)|(apply OKx_sub;exact rfl;exact rfl;omega;omega)|(apply OKx_pickT;exact rfl;(conv=>lhs;whnf)<;>exact rfl)|(apply OKx_pickF;exact rfl;(conv=>lhs;whnf)<;>exact rfl)|(apply OKx_guardT;exact rfl;exact rfl)|(apply OKx_guardF;exact rfl;exact rfl)|(apply OKx_guardU;exact rfl;exact rfl)|(apply OKx_stI;exact rfl;exact rfl;(first | exact at0|exact at1|exact at2|exact at3|exact at4|exact at5|exact at6|exact at7);omega;exact rfl)|(apply OKx_stB;exact rfl;(conv=>lhs;whnf)<;>exact rfl;exact rfl;exact rfl;(first | exact at0|exact at1|exact at2|exact at3|exact at4|exact at5|exact at6|exact at7);exact rfl;exact rfl;exact rfl))
  refine OK_loop1 10 [4, 5, 10, 11, 12, 13, 14, 15, 16, 17, 18, 19, 20, 21, 22, 23, 24, 25, 26, 27] (fun m v L => ∃ k : Nat, k + m = s.length ∧ v = .int .i64 (k : Int) ∧ L = [.obj g (BytesW (fldK s k))]) s.length _ (Ent.refl _ _) ⟨0, by omega, rfl, rfl⟩ ?_
  rintro m v L G ⟨k, hm, rfl, rfl⟩
  have hl := fldK_len s k
  by_cases hk : k < s.length
  · have hat := fldK_at s k hk
    have hfn := foldC_nat (s.getD k 0)
    have hbd : (s.getD k 0).toNat < 256 := UInt8.toNat_lt _
    by_cases hu : 65 ≤ (s.getD k 0).toNat ∧ (s.getD k 0).toNat ≤ 90
    · rw [if_pos hu] at hfn
      have hsub : IntKind.u8.wrap (((s.getD k 0).toNat : Int) - 65) = ((s.getD k 0).toNat : Int) - 65 := wrapU8 _ (by omega) (by omega)
      have hadd : IntKind.u8.wrap (((s.getD k 0).toNat : Int) - 65 + 97) = ((foldC (s.getD k 0)).toNat : Int) := by rw [wrapU8 _ (by omega) (by omega), hfn];omega
      repeat' (first|(apply OK_seq)|(apply thenQ_n)|(apply OK_region)|(apply OKx_gl; refine OKx_ldW7 (k := k) 0 rfl rfl (by omega) ?_; rw [hat])|(refine OKx_subK rfl rfl hsub ?_)|(refine OKx_addK (k := .u8) rfl rfl hadd ?_)|(apply OKx_gs; refine OKx_stW7 (k := k) (b := foldC (s.getD k 0)) 0 rfl rfl rfl (by omega) ?_; rw [List.set_cons_zero, fldK_step s k hk])|(apply OKx_nilK)|(apply OK_block)|(apply blockQ_n)|(apply blockQ_s)|(apply thenQ_e)|(apply blockQ_e;exact rfl)|(apply thenQ_r)|(apply blockQ_r)|(apply OK_condT;exact rfl)|(apply OK_condF;exact rfl)|(apply OK_skip)|(apply OK_exit)|(apply OK_ret)|(apply OKx_move;(conv=>lhs;whnf)<;>exact rfl)|(apply OKx_assign;(conv=>lhs;whnf)<;>exact rfl)|(apply OKx_ldB;exact rfl;(first | exact at0|exact at1|exact at2|exact at3|exact at4|exact at5|exact at6|exact at7);exact rfl)|(apply OKx_ldR;(conv=>lhs;whnf)<;>exact rfl;(with_reducible assumption))|(apply OKx_ldI;exact rfl;(first | exact at0|exact at1|exact at2|exact at3|exact at4|exact at5|exact at6|exact at7);omega)|(apply OKx_len;exact rfl)|(apply OKx_lenR;(conv=>lhs;whnf)<;>exact rfl;(with_reducible assumption))|(apply OKx_lenR2;(conv=>lhs;whnf)<;>exact rfl;(with_reducible assumption))|(apply OKx_lenO;(conv=>lhs;whnf)<;>exact rfl;(first | exact at0|exact at1|exact at2|exact at3|exact at4|exact at5|exact at6|exact at7))|(apply OKx_lss;exact rfl;exact rfl;all_goals (intro _; try (exfalso;omega)))|(apply OKx_leq;exact rfl;exact rfl;all_goals (intro _; try (exfalso;omega)))|(apply OKx_geq;exact rfl;exact rfl;all_goals (intro _; try (exfalso;omega)))|(apply OKx_idxO;exact rfl;exact rfl;omega)|(apply OKx_idxR;(conv=>lhs;whnf)<;>exact rfl;(with_reducible assumption);exact rfl;omega;intro _ _)|(apply OKx_idxOz;exact rfl;exact rfl;omega;omega)|(apply OKx_idxRz;(conv=>lhs;whnf)<;>exact rfl;(with_reducible assumption);exact rfl;omega;omega;intro _ _)|(apply OKx_inc;exact rfl;exact rfl;omega)|(apply OKx_addN;exact rfl;exact rfl;omega)|(apply OKx_add;exact rfl;exact rfl;omega;omega)|(apply OKx_dec;exact rfl;exact rfl;omega;omega)|(apply OKx_subN;exact rfl;exact rfl;omega;omega)|(apply OKx_sub;exact rfl;exact rfl;omega;omega)|(apply OKx_pickT;exact rfl;(conv=>lhs;whnf)<;>exact rfl)|(apply OKx_pickF;exact rfl;(conv=>lhs;whnf)<;>exact rfl)|(apply OKx_guardT;exact rfl;exact rfl)|(apply OKx_guardF;exact rfl;exact rfl)|(apply OKx_guardU;exact rfl;exact rfl)|(apply OKx_stI;exact rfl;exact rfl;(first | exact at0|exact at1|exact at2|exact at3|exact at4|exact at5|exact at6|exact at7);omega;exact rfl)|(apply OKx_stB;exact rfl;(conv=>lhs;whnf)<;>exact rfl;exact rfl;exact rfl;(first | exact at0|exact at1|exact at2|exact at3|exact at4|exact at5|exact at6|exact at7);exact rfl;exact rfl;exact rfl))
      all_goals (try (exfalso;omega))
      refine ⟨by (repeat' (first | refine agree_upd rfl ?_ | exact agree_over | exact agree_refl _ _ | refine agree_over2 rfl ?_)), m - 1, _, by omega, Ent.refl _ _, ?_⟩
      exact ⟨k + 1, by omega, rfl, rfl⟩
    · rw [if_neg hu] at hfn
      have hsame := fldK_same s k hk (UInt8.toNat_inj.1 hfn)
      repeat' (first|(apply OK_seq)|(apply thenQ_n)|(apply OK_region)|(apply OKx_gl; refine OKx_ldW7 (k := k) 0 rfl rfl (by omega) ?_; rw [hat])|(apply OKx_nilK)|(apply OK_block)|(apply blockQ_n)|(apply blockQ_s)|(apply thenQ_e)|(apply blockQ_e;exact rfl)|(apply thenQ_r)|(apply blockQ_r)|(apply OK_condT;exact rfl)|(apply OK_condF;exact rfl)|(apply OK_skip)|(apply OK_exit)|(apply OK_ret)|(apply OKx_move;(conv=>lhs;whnf)<;>exact rfl)|(apply OKx_assign;(conv=>lhs;whnf)<;>exact rfl)|(apply OKx_ldB;exact rfl;(first | exact at0|exact at1|exact at2|exact at3|exact at4|exact at5|exact at6|exact at7);exact rfl)|(apply OKx_ldR;(conv=>lhs;whnf)<;>exact rfl;(with_reducible assumption))|(apply OKx_ldI;exact rfl;(first | exact at0|exact at1|exact at2|exact at3|exact at4|exact at5|exact at6|exact at7);omega)|(apply OKx_len;exact rfl)|(apply OKx_lenR;(conv=>lhs;whnf)<;>exact rfl;(with_reducible assumption))|(apply OKx_lenR2;(conv=>lhs;whnf)<;>exact rfl;(with_reducible assumption))|(apply OKx_lenO;(conv=>lhs;whnf)<;>exact rfl;(first | exact at0|exact at1|exact at2|exact at3|exact at4|exact at5|exact at6|exact at7))|(apply OKx_lss;exact rfl;exact rfl;all_goals (intro _; try (exfalso;omega)))|(apply OKx_leq;exact rfl;exact rfl;all_goals (intro _; try (exfalso;omega)))|(apply OKx_geq;exact rfl;exact rfl;all_goals (intro _; try (exfalso;omega)))|(apply OKx_idxO;exact rfl;exact rfl;omega)|(apply OKx_idxR;(conv=>lhs;whnf)<;>exact rfl;(with_reducible assumption);exact rfl;omega;intro _ _)|(apply OKx_idxOz;exact rfl;exact rfl;omega;omega)|(apply OKx_idxRz;(conv=>lhs;whnf)<;>exact rfl;(with_reducible assumption);exact rfl;omega;omega;intro _ _)|(apply OKx_inc;exact rfl;exact rfl;omega)|(apply OKx_addN;exact rfl;exact rfl;omega)|(apply OKx_add;exact rfl;exact rfl;omega;omega)|(apply OKx_dec;exact rfl;exact rfl;omega;omega)|(apply OKx_subN;exact rfl;exact rfl;omega;omega)|(apply OKx_sub;exact rfl;exact rfl;omega;omega)|(apply OKx_pickT;exact rfl;(conv=>lhs;whnf)<;>exact rfl)|(apply OKx_pickF;exact rfl;(conv=>lhs;whnf)<;>exact rfl)|(apply OKx_guardT;exact rfl;exact rfl)|(apply OKx_guardF;exact rfl;exact rfl)|(apply OKx_guardU;exact rfl;exact rfl)|(apply OKx_stI;exact rfl;exact rfl;(first | exact at0|exact at1|exact at2|exact at3|exact at4|exact at5|exact at6|exact at7);omega;exact rfl)|(apply OKx_stB;exact rfl;(conv=>lhs;whnf)<;>exact rfl;exact rfl;exact rfl;(first | exact at0|exact at1|exact at2|exact at3|exact at4|exact at5|exact at6|exact at7);exact rfl;exact rfl;exact rfl))
      all_goals (try (exfalso;omega))
      all_goals
        refine ⟨by (repeat' (first | refine agree_upd rfl ?_ | exact agree_over | exact agree_refl _ _ | refine agree_over2 rfl ?_)), m - 1, _, by omega, Ent.refl _ _, ?_⟩
        exact ⟨k + 1, by omega, rfl, by rw [hsame]⟩
  · obtain rfl : k = s.length := by omega
    have he : fldK s s.length = s.map foldC := by unfold fldK; rw [List.take_length, List.drop_length, List.append_nil]
    rw [he]
    repeat' (first|(apply OK_seq)|(apply thenQ_n)|(apply OK_region)|(refine OKx_convWS 0 rfl (by simp) rfl Tryd.underlying101 (by kernel_rfl) (by kernel_rfl) ?_)|(apply OKx_nilK)|(apply OK_block)|(apply blockQ_n)|(apply blockQ_s)|(apply thenQ_e)|(apply blockQ_e;exact rfl)|(apply thenQ_r)|(apply blockQ_r)|(apply OK_condT;exact rfl)|(apply OK_condF;exact rfl)|(apply OK_skip)|(apply OK_exit)|(apply OK_ret)|(apply OKx_move;(conv=>lhs;whnf)<;>exact rfl)|(apply OKx_assign;(conv=>lhs;whnf)<;>exact rfl)|(apply OKx_ldB;exact rfl;(first | exact at0|exact at1|exact at2|exact at3|exact at4|exact at5|exact at6|exact at7);exact rfl)|(apply OKx_ldR;(conv=>lhs;whnf)<;>exact rfl;(with_reducible assumption))|(apply OKx_ldI;exact rfl;(first | exact at0|exact at1|exact at2|exact at3|exact at4|exact at5|exact at6|exact at7);omega)|(apply OKx_len;exact rfl)|(apply OKx_lenR;(conv=>lhs;whnf)<;>exact rfl;(with_reducible assumption))|(apply OKx_lenR2;(conv=>lhs;whnf)<;>exact rfl;(with_reducible assumption))|(apply OKx_lenO;(conv=>lhs;whnf)<;>exact rfl;(first | exact at0|exact at1|exact at2|exact at3|exact at4|exact at5|exact at6|exact at7))|(apply OKx_lss;exact rfl;exact rfl;all_goals (intro _; try (exfalso;omega)))|(apply OKx_leq;exact rfl;exact rfl;all_goals (intro _; try (exfalso;omega)))|(apply OKx_geq;exact rfl;exact rfl;all_goals (intro _; try (exfalso;omega)))|(apply OKx_idxO;exact rfl;exact rfl;omega)|(apply OKx_idxR;(conv=>lhs;whnf)<;>exact rfl;(with_reducible assumption);exact rfl;omega;intro _ _)|(apply OKx_idxOz;exact rfl;exact rfl;omega;omega)|(apply OKx_idxRz;(conv=>lhs;whnf)<;>exact rfl;(with_reducible assumption);exact rfl;omega;omega;intro _ _)|(apply OKx_inc;exact rfl;exact rfl;omega)|(apply OKx_addN;exact rfl;exact rfl;omega)|(apply OKx_add;exact rfl;exact rfl;omega;omega)|(apply OKx_dec;exact rfl;exact rfl;omega;omega)|(apply OKx_subN;exact rfl;exact rfl;omega;omega)|(apply OKx_sub;exact rfl;exact rfl;omega;omega)|(apply OKx_pickT;exact rfl;(conv=>lhs;whnf)<;>exact rfl)|(apply OKx_pickF;exact rfl;(conv=>lhs;whnf)<;>exact rfl)|(apply OKx_guardT;exact rfl;exact rfl)|(apply OKx_guardF;exact rfl;exact rfl)|(apply OKx_guardU;exact rfl;exact rfl)|(apply OKx_stI;exact rfl;exact rfl;(first | exact at0|exact at1|exact at2|exact at3|exact at4|exact at5|exact at6|exact at7);omega;exact rfl)|(apply OKx_stB;exact rfl;(conv=>lhs;whnf)<;>exact rfl;exact rfl;exact rfl;(first | exact at0|exact at1|exact at2|exact at3|exact at4|exact at5|exact at6|exact at7);exact rfl;exact rfl;exact rfl))
    refine bodyQ_r1 (by ((conv=>lhs;whnf)<;>exact rfl)) ?_
    exact ⟨_, Ent.nil, rfl, rfl⟩
def mkC (c : UInt8) : Bool := decide (kindB c = 2)
set_option maxRecDepth 100000 in
set_option maxHeartbeats 4000000 in
theorem plain1_sat (c : UInt8) (w : World) : SatV Tryd.prog 161 [.int .u8 (c.toNat : Int)] w (.bool (mkC c)) := by
  have hk := fun w1 => kind_sat c w1
  unfold mkC kindB
  refine SatL.of 6 [2] Tryd.func161 (by kernel_rfl) (by kernel_rfl) rfl rfl rfl rfl ?_
  repeat' (first|(apply OK_seq)|(apply thenQ_n)|(apply OK_region)|(apply OKx_gc 78;exact rfl; refine OKx_callV (f := 78) rfl rfl rfl (fun w1 hp => hk w1) ?_)|(apply OKx_nilK)|(apply OK_block)|(apply blockQ_n)|(apply blockQ_s)|(apply thenQ_e)|(apply blockQ_e;exact rfl)|(apply thenQ_r)|(apply blockQ_r)|(apply OK_condT;exact rfl)|(apply OK_condF;exact rfl)|(apply OK_skip)|(apply OK_exit)|(apply OK_ret)|(apply OKx_move;(conv=>lhs;whnf)<;>exact rfl)|(apply OKx_assign;(conv=>lhs;whnf)<;>exact rfl)|(apply OKx_eql;exact rfl;exact rfl;all_goals (intro _; try (exfalso;omega))))
  all_goals
    refine bodyQ_r1 (by ((conv=>lhs;whnf)<;>exact rfl)) ?_
    refine ⟨_, Ent.nil, bool_eq ?_, rfl⟩
  all_goals first
    | rw [decide_eq_true (by assumption)]
    | rw [decide_eq_false (by assumption)]
def kpK (s : List UInt8) (k : Nat) : List UInt8 := (s.take k).filter fun c => !mkC c
theorem kpK_step (s : List UInt8) (k : Nat) (h : k < s.length) : kpK s (k + 1) = kpK s k ++ if mkC (s.getD k 0) = true then [] else [s.getD k 0] := by
  unfold kpK
  rw [List.take_succ_eq_append_getElem h, List.filter_append, getD_lt _ _ _ h]
  cases hm : mkC s[k] <;> simp [hm]
theorem kpK_none (s : List UInt8) (k : Nat) (hk : k ≤ s.length) (h : ∀ j, j < k → mkC (s.getD j 0) = false) : kpK s k = s.take k := by
  unfold kpK
  rw [List.filter_eq_self]
  intro a ha
  obtain ⟨j, hj, rfl⟩ := List.getElem_of_mem ha
  have hj' : j < k := by rw [List.length_take] at hj;omega
  have := h j hj'
  rw [getD_lt _ _ _ (by omega)] at this
  rw [List.getElem_take, this]
  rfl
def FstR (p : Nat → Bool) (N : Nat) (u : Value) (L : List Res) : Prop := L = [] ∧ ((u = .int .i64 (-1) ∧ ∀ j, j < N → p j = false) ∨ ∃ k : Nat, k < N ∧ u = .int .i64 (k : Int) ∧ p k = true ∧ ∀ j, j < k → p j = false)
set_option maxRecDepth 100000 in
set_option maxHeartbeats 4000000 in
theorem indexF_byte2_sat (v : Value) (N : Nat) (e : Nat → Value) (p : Nat → Bool) (g : FuncId) (cs : Array Value) (w : World) (h : Sl w v 1 N e) (hf : ∀ k, k < N → ∀ w1, Below w.heap.size w w1 → SatV Tryd.prog g (e k :: cs.toList) w1 (.bool (p k))) :
    Sat Tryd.prog 178 [v, .func (.func g) #[] cs] w (FstR p N) := by
  have hN := h.bound
  refine SatL.of 19 [4] Tryd.func178 (by kernel_rfl) (by kernel_rfl) rfl rfl rfl rfl ?_
  repeat' (first|(apply OK_seq)|(apply thenQ_n)|(apply OK_region)|(apply OKx_nilK)|(apply OK_block)|(apply blockQ_n)|(apply blockQ_s)|(apply thenQ_e)|(apply blockQ_e;exact rfl)|(apply thenQ_r)|(apply blockQ_r)|(apply OK_condT;exact rfl)|(apply OK_condF;exact rfl)|(apply OK_skip)|(apply OK_exit)|(apply OK_ret)|(apply OKx_move;(conv=>lhs;whnf)<;>exact rfl)|(apply OKx_assign;(conv=>lhs;whnf)<;>exact rfl)|(apply OKx_ldB;exact rfl;(first | exact at0|exact at1|exact at2|exact at3|exact at4|exact at5|exact at6|exact at7);exact rfl)|(apply OKx_ldR;(conv=>lhs;whnf)<;>exact rfl;(with_reducible assumption))|(apply OKx_ldI;exact rfl;(first | exact at0|exact at1|exact at2|exact at3|exact at4|exact at5|exact at6|exact at7);omega)|(apply OKx_len;exact rfl)|(apply OKx_lenR;(conv=>lhs;whnf)<;>exact rfl;(with_reducible assumption))|(apply OKx_lenR2;(conv=>lhs;whnf)<;>exact rfl;(with_reducible assumption))|(apply OKx_lenO;(conv=>lhs;whnf)<;>exact rfl;(first | exact at0|exact at1|exact at2|exact at3|exact at4|exact at5|exact at6|exact at7))|(apply OKx_lss;exact rfl;exact rfl;all_goals (intro _; try (exfalso;omega)))|(apply OKx_idxO;exact rfl;exact rfl;omega)|(apply OKx_idxR;(conv=>lhs;whnf)<;>exact rfl;(with_reducible assumption);exact rfl;omega;intro _ _)|(apply OKx_idxOz;exact rfl;exact rfl;omega;omega)|(apply OKx_idxRz;(conv=>lhs;whnf)<;>exact rfl;(with_reducible assumption);exact rfl;omega;omega;intro _ _)|(apply OKx_inc;exact rfl;exact rfl;omega)|(apply OKx_addN;exact rfl;exact rfl;omega)|(apply OKx_add;exact rfl;exact rfl;omega;omega))
  refine OK_loop1 8 [4, 5, 8, 9, 10, 11, 12, 13, 14, 15, 16, 17, 18] (fun m v L => ∃ k : Nat, k + m = N ∧ v = .int .i64 (k : Int) ∧ (∀ j, j < k → p j = false) ∧ L = []) N [] (Ent.refl _ _) ⟨0, by omega, rfl, fun j hj => absurd hj (by omega), rfl⟩ ?_
  rintro m v' L G ⟨k, hm, rfl, H, rfl⟩
  repeat' (first|(apply OK_seq)|(apply thenQ_n)|(apply OK_region)|(refine OKx_callB (f := g) rfl rfl rfl (fun w hp => hf k (by omega) w hp.below) ?_ ?_ <;> intro hq)|(apply OKx_nilK)|(apply OK_block)|(apply blockQ_n)|(apply blockQ_s)|(apply thenQ_e)|(apply blockQ_e;exact rfl)|(apply thenQ_r)|(apply blockQ_r)|(apply OK_condT;exact rfl)|(apply OK_condF;exact rfl)|(apply OK_skip)|(apply OK_exit)|(apply OK_ret)|(apply OKx_move;(conv=>lhs;whnf)<;>exact rfl)|(apply OKx_assign;(conv=>lhs;whnf)<;>exact rfl)|(apply OKx_ldB;exact rfl;(first | exact at0|exact at1|exact at2|exact at3|exact at4|exact at5|exact at6|exact at7);exact rfl)|(apply OKx_ldR;(conv=>lhs;whnf)<;>exact rfl;(with_reducible assumption))|(apply OKx_ldI;exact rfl;(first | exact at0|exact at1|exact at2|exact at3|exact at4|exact at5|exact at6|exact at7);omega)|(apply OKx_len;exact rfl)|(apply OKx_lenR;(conv=>lhs;whnf)<;>exact rfl;(with_reducible assumption))|(apply OKx_lenR2;(conv=>lhs;whnf)<;>exact rfl;(with_reducible assumption))|(apply OKx_lenO;(conv=>lhs;whnf)<;>exact rfl;(first | exact at0|exact at1|exact at2|exact at3|exact at4|exact at5|exact at6|exact at7))|(apply OKx_lss;exact rfl;exact rfl;all_goals (intro _; try (exfalso;omega)))|(apply OKx_idxO;exact rfl;exact rfl;omega)|(apply OKx_idxR;(conv=>lhs;whnf)<;>exact rfl;(with_reducible assumption);exact rfl;omega;intro _ _)|(apply OKx_idxOz;exact rfl;exact rfl;omega;omega)|(apply OKx_idxRz;(conv=>lhs;whnf)<;>exact rfl;(with_reducible assumption);exact rfl;omega;omega;intro _ _)|(apply OKx_inc;exact rfl;exact rfl;omega)|(apply OKx_addN;exact rfl;exact rfl;omega)|(apply OKx_add;exact rfl;exact rfl;omega;omega))
  · refine bodyQ_r1 (by ((conv=>lhs;whnf)<;>exact rfl)) ?_
    exact ⟨_, Ent.refl _ _, rfl, .inr ⟨k, by omega, rfl, hq, H⟩⟩
  · refine ⟨by (repeat' (first | refine agree_upd rfl ?_ | exact agree_over | exact agree_refl _ _ | refine agree_over2 rfl ?_)), m - 1, _, by omega, Ent.refl _ _, ?_⟩
    refine ⟨k + 1, by omega, rfl, fun j hj => ?_, rfl⟩
    by_cases hjk : j < k
    · exact H j hjk
    · obtain rfl : j = k := by omega
      exact hq
  · refine bodyQ_r1 (by ((conv=>lhs;whnf)<;>exact rfl)) ?_
    exact ⟨_, Ent.refl _ _, rfl, .inl ⟨rfl, fun j hj => H j (by omega)⟩⟩
theorem take_set_lt {α : Type} (l : List α) (i : Nat) (a : α) (h : i < l.length) : (l.set i a).take (i + 1) = l.take i ++ [a] := by
  rw [List.take_succ_eq_append_getElem (by simpa using h), List.take_set_of_le (Nat.le_refl _)]
  simp
set_option maxRecDepth 100000 in
set_option maxHeartbeats 4000000 in
theorem deleteF_sat (g c : Nat) (s : List UInt8) (Z : List Res) (w : World) (hs : s.length ≤ 140737488355328) (hc : s.length ≤ c) :
    SatL Tryd.prog 160 [.slice (some ⟨g, 0, none⟩) s.length c, .func (.func 161) #[] #[]] w (.obj g (BytesW s) :: Z) (fun u L => ∃ s', u = .slice (some ⟨g, 0, none⟩) (kpK s s.length).length c ∧ s'.take (kpK s s.length).length = kpK s s.length ∧ L = .obj g (BytesW s') :: Z) := by
  have hF : ∀ w1, Hp w.heap.size w w1 (.obj g (BytesW s) :: Z) → Sat Tryd.prog 178 [.slice (some ⟨g, 0, none⟩) s.length c, .func (.func 161) #[] #[]] w1 (FstR (fun j => mkC (s.getD j 0)) s.length) := fun w1 hp =>
    indexF_byte2_sat _ s.length _ (fun j => mkC (s.getD j 0)) 161 #[] w1 (hp.bytesSl 0 rfl hc hs) (fun k hk w2 hb => plain1_sat _ w2)
  refine SatL.of 42 [4] Tryd.func160 (by kernel_rfl) (by kernel_rfl) rfl rfl rfl rfl ?_
  repeat' (first|(apply OK_seq)|(apply thenQ_n)|(apply OK_region)|(apply OKx_gc 178;exact rfl; refine OKx_call (f := 178) rfl rfl (fun w1 hp => hF w1 hp) ?_; rintro _ _ ⟨rfl, (⟨rfl, hn⟩ | ⟨i0, hi0, rfl, hp0, hb0⟩)⟩ <;> rw [List.nil_append])|(apply OKx_nilK)|(apply OK_block)|(apply blockQ_n)|(apply blockQ_s)|(apply thenQ_e)|(apply blockQ_e;exact rfl)|(apply thenQ_r)|(apply blockQ_r)|(apply OK_condT;exact rfl)|(apply OK_condF;exact rfl)|(apply OK_skip)|(apply OK_exit)|(apply OK_ret)|(apply OKx_move;(conv=>lhs;whnf)<;>exact rfl)|(apply OKx_assign;(conv=>lhs;whnf)<;>exact rfl)|(apply OKx_ldB;exact rfl;(first | exact at0|exact at1|exact at2|exact at3|exact at4|exact at5|exact at6|exact at7);exact rfl)|(apply OKx_ldR;(conv=>lhs;whnf)<;>exact rfl;(with_reducible assumption))|(apply OKx_ldI;exact rfl;(first | exact at0|exact at1|exact at2|exact at3|exact at4|exact at5|exact at6|exact at7);omega)|(apply OKx_len;exact rfl)|(apply OKx_lenR;(conv=>lhs;whnf)<;>exact rfl;(with_reducible assumption))|(apply OKx_lenR2;(conv=>lhs;whnf)<;>exact rfl;(with_reducible assumption))|(apply OKx_lenO;(conv=>lhs;whnf)<;>exact rfl;(first | exact at0|exact at1|exact at2|exact at3|exact at4|exact at5|exact at6|exact at7))|(apply OKx_lss;exact rfl;exact rfl;all_goals (intro _; try (exfalso;omega)))|(apply OKx_eql;exact rfl;exact rfl;all_goals (intro _; try (exfalso;omega)))|(apply OKx_idxO;exact rfl;exact rfl;omega)|(apply OKx_idxR;(conv=>lhs;whnf)<;>exact rfl;(with_reducible assumption);exact rfl;omega;intro _ _)|(apply OKx_idxOz;exact rfl;exact rfl;omega;omega)|(apply OKx_idxRz;(conv=>lhs;whnf)<;>exact rfl;(with_reducible assumption);exact rfl;omega;omega;intro _ _)|(apply OKx_inc;exact rfl;exact rfl;omega)|(apply OKx_addN;exact rfl;exact rfl;omega)|(apply OKx_add;exact rfl;exact rfl;omega;omega)|(apply OKx_notT;exact rfl)|(apply OKx_notF;exact rfl)|(apply OKx_stI;exact rfl;exact rfl;(first | exact at0|exact at1|exact at2|exact at3|exact at4|exact at5|exact at6|exact at7);omega;exact rfl)|(apply OKx_stB;exact rfl;(conv=>lhs;whnf)<;>exact rfl;exact rfl;exact rfl;(first | exact at0|exact at1|exact at2|exact at3|exact at4|exact at5|exact at6|exact at7);exact rfl;exact rfl;exact rfl))
  all_goals (try (exfalso;omega))
  · refine bodyQ_r1 (by ((conv=>lhs;whnf)<;>exact rfl)) ?_
    have hk := kpK_none s s.length (Nat.le_refl _) hn
    rw [List.take_length] at hk
    rw [hk]
    exact ⟨_, Ent.refl _ _, s, rfl, List.take_length, rfl⟩
  have hk0 := kpK_none s i0 (by omega) hb0
  have hk1 := kpK_step s i0 hi0
  rw [if_pos hp0, List.append_nil, hk0] at hk1
  refine OK_loop2 5 6 [5, 6, 7, 16, 17, 18, 19, 20, 21, 22, 23, 24, 25, 26, 27, 28, 29, 30, 31, 32, 33, 34, 35] (fun m v1 v2 L => ∃ (j : Nat) (us : List UInt8), j + m = s.length ∧ us.length = s.length ∧ (kpK s j).length < j ∧ us.take (kpK s j).length = kpK s j ∧ (∀ p, j ≤ p → us.getD p 0 = s.getD p 0) ∧ v1 = .int .i64 ((kpK s j).length : Int) ∧ v2 = .int .i64 (j : Int) ∧ L = .obj g (BytesW us) :: Z) (s.length - (i0 + 1)) _ (Ent.refl _ _) ⟨i0 + 1, s, by omega, rfl, ?_, ?_, fun p _ => rfl, ?_, rfl, rfl⟩ ?_
  · rw [hk1, List.length_take];omega
  · rw [hk1, List.length_take, Nat.min_eq_left (by omega)]
  · rw [hk1, List.length_take, Nat.min_eq_left (by omega)]; rfl
  rintro m v1 v2 L G ⟨j, us, hm, hul, hlt, htk, hun, rfl, rfl, rfl⟩
  have hst := kpK_step s j
  by_cases hj : j < s.length
  · have hst := hst hj
    have hat := hun j (Nat.le_refl _)
    have hP := fun w1 => plain1_sat (s.getD j 0) w1
    cases hmk : mkC (s.getD j 0) <;> rw [hmk] at hP hst
    · have hkl : (kpK s (j + 1)).length = (kpK s j).length + 1 := by rw [hst]; simp
      repeat' (first|(apply OK_seq)|(apply thenQ_n)|(apply OK_region)|(apply OKx_gl; refine OKx_ldW7 (k := j) 0 rfl rfl (by omega) ?_; rw [hat])|(apply OKx_gc 161;exact rfl; refine OKx_callV (f := 161) rfl rfl rfl (fun w1 hp => hP w1) ?_)|(apply OKx_gs; refine OKx_stW7 (k := (kpK s j).length) (b := s.getD j 0) 0 rfl rfl rfl (by omega) ?_; rw [List.set_cons_zero])|(apply OKx_nilK)|(apply OK_block)|(apply blockQ_n)|(apply blockQ_s)|(apply thenQ_e)|(apply blockQ_e;exact rfl)|(apply thenQ_r)|(apply blockQ_r)|(apply OK_condT;exact rfl)|(apply OK_condF;exact rfl)|(apply OK_skip)|(apply OK_exit)|(apply OK_ret)|(apply OKx_move;(conv=>lhs;whnf)<;>exact rfl)|(apply OKx_assign;(conv=>lhs;whnf)<;>exact rfl)|(apply OKx_ldB;exact rfl;(first | exact at0|exact at1|exact at2|exact at3|exact at4|exact at5|exact at6|exact at7);exact rfl)|(apply OKx_ldR;(conv=>lhs;whnf)<;>exact rfl;(with_reducible assumption))|(apply OKx_ldI;exact rfl;(first | exact at0|exact at1|exact at2|exact at3|exact at4|exact at5|exact at6|exact at7);omega)|(apply OKx_len;exact rfl)|(apply OKx_lenR;(conv=>lhs;whnf)<;>exact rfl;(with_reducible assumption))|(apply OKx_lenR2;(conv=>lhs;whnf)<;>exact rfl;(with_reducible assumption))|(apply OKx_lenO;(conv=>lhs;whnf)<;>exact rfl;(first | exact at0|exact at1|exact at2|exact at3|exact at4|exact at5|exact at6|exact at7))|(apply OKx_lss;exact rfl;exact rfl;all_goals (intro _; try (exfalso;omega)))|(apply OKx_eql;exact rfl;exact rfl;all_goals (intro _; try (exfalso;omega)))|(apply OKx_idxO;exact rfl;exact rfl;omega)|(apply OKx_idxR;(conv=>lhs;whnf)<;>exact rfl;(with_reducible assumption);exact rfl;omega;intro _ _)|(apply OKx_idxOz;exact rfl;exact rfl;omega;omega)|(apply OKx_idxRz;(conv=>lhs;whnf)<;>exact rfl;(with_reducible assumption);exact rfl;omega;omega;intro _ _)|(apply OKx_inc;exact rfl;exact rfl;omega)|(apply OKx_addN;exact rfl;exact rfl;omega)|(apply OKx_add;exact rfl;exact rfl;omega;omega)|(apply OKx_notT;exact rfl)|(apply OKx_notF;exact rfl)|(apply OKx_stI;exact rfl;exact rfl;(first | exact at0|exact at1|exact at2|exact at3|exact at4|exact at5|exact at6|exact at7);omega;exact rfl)|(apply OKx_stB;exact rfl;(conv=>lhs;whnf)<;>exact rfl;exact rfl;exact rfl;(first | exact at0|exact at1|exact at2|exact at3|exact at4|exact at5|exact at6|exact at7);exact rfl;exact rfl;exact rfl))
      refine ⟨by (repeat' (first | refine agree_upd rfl ?_ | exact agree_over | exact agree_refl _ _ | refine agree_over2 rfl ?_)), m - 1, _, by omega, Ent.refl _ _, ?_⟩
      refine ⟨j + 1, _, by omega, by rw [List.length_set]; exact hul, by omega, ?_, fun p hp => ?_, int_eq (by omega), rfl, rfl⟩
      · rw [hkl, take_set_lt _ _ _ (by omega), htk, hst]; rfl
      · rw [setD _ _ _ _ (by omega), if_neg (by omega)]
        exact hun p (by omega)
    · have hkl : kpK s (j + 1) = kpK s j := by rw [hst]; simp
      repeat' (first|(apply OK_seq)|(apply thenQ_n)|(apply OK_region)|(apply OKx_gl; refine OKx_ldW7 (k := j) 0 rfl rfl (by omega) ?_; rw [hat])|(apply OKx_gc 161;exact rfl; refine OKx_callV (f := 161) rfl rfl rfl (fun w1 hp => hP w1) ?_)|(apply OKx_nilK)|(apply OK_block)|(apply blockQ_n)|(apply blockQ_s)|(apply thenQ_e)|(apply blockQ_e;exact rfl)|(apply thenQ_r)|(apply blockQ_r)|(apply OK_condT;exact rfl)|(apply OK_condF;exact rfl)|(apply OK_skip)|(apply OK_exit)|(apply OK_ret)|(apply OKx_move;(conv=>lhs;whnf)<;>exact rfl)|(apply OKx_assign;(conv=>lhs;whnf)<;>exact rfl)|(apply OKx_ldB;exact rfl;(first | exact at0|exact at1|exact at2|exact at3|exact at4|exact at5|exact at6|exact at7);exact rfl)|(apply OKx_ldR;(conv=>lhs;whnf)<;>exact rfl;(with_reducible assumption))|(apply OKx_ldI;exact rfl;(first | exact at0|exact at1|exact at2|exact at3|exact at4|exact at5|exact at6|exact at7);omega)|(apply OKx_len;exact rfl)|(apply OKx_lenR;(conv=>lhs;whnf)<;>exact rfl;(with_reducible assumption))|(apply OKx_lenR2;(conv=>lhs;whnf)<;>exact rfl;(with_reducible assumption))|(apply OKx_lenO;(conv=>lhs;whnf)<;>exact rfl;(first | exact at0|exact at1|exact at2|exact at3|exact at4|exact at5|exact at6|exact at7))|(apply OKx_lss;exact rfl;exact rfl;all_goals (intro _; try (exfalso;omega)))|(apply OKx_eql;exact rfl;exact rfl;all_goals (intro _; try (exfalso;omega)))|(apply OKx_idxO;exact rfl;exact rfl;omega)|(apply OKx_idxR;(conv=>lhs;whnf)<;>exact rfl;(with_reducible assumption);exact rfl;omega;intro _ _)|(apply OKx_idxOz;exact rfl;exact rfl;omega;omega)|(apply OKx_idxRz;(conv=>lhs;whnf)<;>exact rfl;(with_reducible assumption);exact rfl;omega;omega;intro _ _)|(apply OKx_inc;exact rfl;exact rfl;omega)|(apply OKx_addN;exact rfl;exact rfl;omega)|(apply OKx_add;exact rfl;exact rfl;omega;omega)|(apply OKx_notT;exact rfl)|(apply OKx_notF;exact rfl)|(apply OKx_stI;exact rfl;exact rfl;(first | exact at0|exact at1|exact at2|exact at3|exact at4|exact at5|exact at6|exact at7);omega;exact rfl)|(apply OKx_stB;exact rfl;(conv=>lhs;whnf)<;>exact rfl;exact rfl;exact rfl;(first | exact at0|exact at1|exact at2|exact at3|exact at4|exact at5|exact at6|exact at7);exact rfl;exact rfl;exact rfl))
      refine ⟨by (repeat' (first | refine agree_upd rfl ?_ | exact agree_over | exact agree_refl _ _ | refine agree_over2 rfl ?_)), m - 1, _, by omega, Ent.refl _ _, ?_⟩
      refine ⟨j + 1, us, by omega, hul, by rw [hkl];omega, by rw [hkl]; exact htk, fun p hp => hun p (by omega), int_eq (by rw [hkl]), rfl, rfl⟩
  · obtain rfl : j = s.length := by omega
    repeat' (first|(apply OK_seq)|(apply thenQ_n)|(apply OK_region)|(refine OKx_slL rfl rfl (by omega) ?_; intro o' ho'; obtain rfl := ho' (by omega); rw [Nat.zero_add, Nat.mul_one])|(refine OKx_clearW7 0 rfl rfl (fun w => by kernel_rfl) (by omega) (by omega) ?_; intro s2 hs2 ht2; rw [List.set_cons_zero])|(refine OKx_slH rfl rfl (by omega) ?_)|(apply OKx_nilK)|(apply OK_block)|(apply blockQ_n)|(apply blockQ_s)|(apply thenQ_e)|(apply blockQ_e;exact rfl)|(apply thenQ_r)|(apply blockQ_r)|(apply OK_condT;exact rfl)|(apply OK_condF;exact rfl)|(apply OK_skip)|(apply OK_exit)|(apply OK_ret)|(apply OKx_move;(conv=>lhs;whnf)<;>exact rfl)|(apply OKx_assign;(conv=>lhs;whnf)<;>exact rfl)|(apply OKx_ldB;exact rfl;(first | exact at0|exact at1|exact at2|exact at3|exact at4|exact at5|exact at6|exact at7);exact rfl)|(apply OKx_ldR;(conv=>lhs;whnf)<;>exact rfl;(with_reducible assumption))|(apply OKx_ldI;exact rfl;(first | exact at0|exact at1|exact at2|exact at3|exact at4|exact at5|exact at6|exact at7);omega)|(apply OKx_len;exact rfl)|(apply OKx_lenR;(conv=>lhs;whnf)<;>exact rfl;(with_reducible assumption))|(apply OKx_lenR2;(conv=>lhs;whnf)<;>exact rfl;(with_reducible assumption))|(apply OKx_lenO;(conv=>lhs;whnf)<;>exact rfl;(first | exact at0|exact at1|exact at2|exact at3|exact at4|exact at5|exact at6|exact at7))|(apply OKx_lss;exact rfl;exact rfl;all_goals (intro _; try (exfalso;omega)))|(apply OKx_eql;exact rfl;exact rfl;all_goals (intro _; try (exfalso;omega)))|(apply OKx_idxO;exact rfl;exact rfl;omega)|(apply OKx_idxR;(conv=>lhs;whnf)<;>exact rfl;(with_reducible assumption);exact rfl;omega;intro _ _)|(apply OKx_idxOz;exact rfl;exact rfl;omega;omega)|(apply OKx_idxRz;(conv=>lhs;whnf)<;>exact rfl;(with_reducible assumption);exact rfl;omega;omega;intro _ _)|(apply OKx_inc;exact rfl;exact rfl;omega)|(apply OKx_addN;exact rfl;exact rfl;omega)|(apply OKx_add;exact rfl;exact rfl;omega;omega)|(apply OKx_notT;exact rfl)|(apply OKx_notF;exact rfl)|(apply OKx_stI;exact rfl;exact rfl;(first | exact at0|exact at1|exact at2|exact at3|exact at4|exact at5|exact at6|exact at7);omega;exact rfl)|(apply OKx_stB;exact rfl;(conv=>lhs;whnf)<;>exact rfl;exact rfl;exact rfl;(first | exact at0|exact at1|exact at2|exact at3|exact at4|exact at5|exact at6|exact at7);exact rfl;exact rfl;exact rfl))
    refine bodyQ_r1 (by ((conv=>lhs;whnf)<;>exact rfl)) ?_
    refine ⟨_, Ent.refl _ _, s2, rfl, ?_, rfl⟩
    exact ht2.trans htk
theorem Ent.objW {w0 : World} {g : Nat} {p q : Obj → Prop} {Z : List Res} (h : ∀ o, p o → q o) : Ent w0 (.obj g p :: Z) (.obj g q :: Z) := Ent.mk fun w hp => by
  obtain ⟨hB, o, ho, hpo⟩ : w0.heap.size ≤ g ∧ ∃ o, w.heap[g]? = some o ∧ p o := hp.ok _ (List.mem_of_getElem? (i := 0) rfl)
  exact hp.turn (i := 0) rfl (r' := .obj g q) ⟨rfl, rfl, rfl, Nat.le_refl _, fun j _ _ => rfl⟩ ⟨hB, o, ho, h o hpo⟩ (fun k hk => .inl hk)
theorem BytesW.take {s : List UInt8} {o : Obj} (k : Nat) (h : BytesW s o) : BytesW (s.take k) o := by
  obtain ⟨C, e, lo, hi, rfl, hl, hC⟩ := h
  refine ⟨C, e, lo, hi, rfl, by rw [List.length_take];omega, fun j b hj => hC j b ?_⟩
  rw [List.getElem?_take] at hj
  split at hj
  · exact hj
  · cases hj
set_option maxRecDepth 100000 in
set_option maxHeartbeats 4000000 in
theorem Plain_sat (s : List UInt8) (w : World) (hs : s.length ≤ 140737488355328) : SatV Tryd.prog 151 [.string (bOf s)] w (.string (bOf (s.filter fun c => !mkC c))) := by
  have hk : kpK s s.length = s.filter fun c => !mkC c := by unfold kpK; rw [List.take_length]
  refine SatL.of 7 [2] Tryd.func151 (by kernel_rfl) (by kernel_rfl) rfl rfl rfl rfl ?_
  repeat' (first|(apply OK_seq)|(apply thenQ_n)|(apply OK_region)|(refine OKx_convSW rfl (by kernel_rfl) Tryd.underlying101 (by kernel_rfl) ?_; intro g c hc)|(apply OKx_gc 160;exact rfl; refine OKx_callL (f := 160) rfl rfl (deleteF_sat g c s [] w hs hc) ?_; rintro _ _ ⟨s2, rfl, ht, rfl⟩; refine OKx_ent (Ent.objW (q := BytesW (kpK s s.length)) (fun o h => by have := BytesW.take (kpK s s.length).length h; rwa [ht] at this)) ?_)|(refine OKx_convWS 0 rfl rfl rfl Tryd.underlying101 (by kernel_rfl) (by kernel_rfl) ?_)|(apply OKx_nilK)|(apply OK_block)|(apply blockQ_n)|(apply blockQ_s)|(apply thenQ_e)|(apply blockQ_e;exact rfl)|(apply thenQ_r)|(apply blockQ_r)|(apply OK_condT;exact rfl)|(apply OK_condF;exact rfl)|(apply OK_skip)|(apply OK_exit)|(apply OK_ret)|(apply OKx_move;(conv=>lhs;whnf)<;>exact rfl)|(apply OKx_assign;(conv=>lhs;whnf)<;>exact rfl))
  refine bodyQ_r1 (by ((conv=>lhs;whnf)<;>exact rfl)) ?_
  exact ⟨_, Ent.nil, by rw [hk], rfl⟩
set_option maxRecDepth 100000 in
set_option maxHeartbeats 4000000 in
theorem simple_sat (s : ByteArray) (w : World) (hs : s.size ≤ 140737488355328) : SatV Tryd.prog 142 [.string s] w (.string (bOf (simL (byts s)))) := by
  have hl := byts_len s
  have hp := fun w1 => Plain_sat (byts s) w1 (by omega)
  rw [show bOf (byts s) = s from bOf_data s] at hp
  have hf := fun w1 => Fold_sat ((byts s).filter fun c => !mkC c) w1 (Nat.le_trans (List.length_filter_le _ _) (by omega))
  refine SatL.of 6 [2] Tryd.func142 (by kernel_rfl) (by kernel_rfl) rfl rfl rfl rfl ?_
  repeat' (first|(apply OK_seq)|(apply thenQ_n)|(apply OK_region)|(apply OKx_gc 151;exact rfl; refine OKx_callV (f := 151) rfl rfl rfl (fun w1 _ => hp w1) ?_)|(apply OKx_gc 150;exact rfl; refine OKx_callV (f := 150) rfl rfl rfl (fun w1 _ => hf w1) ?_)|(apply OKx_nilK)|(apply OK_block)|(apply blockQ_n)|(apply blockQ_s)|(apply thenQ_e)|(apply blockQ_e;exact rfl)|(apply thenQ_r)|(apply blockQ_r)|(apply OK_condT;exact rfl)|(apply OK_condF;exact rfl)|(apply OK_skip)|(apply OK_exit)|(apply OK_ret)|(apply OKx_move;(conv=>lhs;whnf)<;>exact rfl)|(apply OKx_assign;(conv=>lhs;whnf)<;>exact rfl))
  refine bodyQ_r1 (by ((conv=>lhs;whnf)<;>exact rfl)) ?_
  exact ⟨_, Ent.nil, rfl, rfl⟩
end Go.Proofs.YthnlnffmmioapaaDoor
