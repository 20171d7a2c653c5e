/-
  Part 14 of the proof: Lx02, Tbl, Crd. No statement of the seat is proved here.
-/
import Derived.Test.YtkimmlhcaanfjaaDoorMHAd0213
import Derived.LaidSub
import Derived.MakeChecks
import Derived.Lib.LaidTab
import Derived.Test.YtkimmlhcaanfjaaDoorRows
import Derived.HandedShaped
import Derived.LaidMore
import Derived.Lay
namespace Go.Proofs.YtkimmlhcaanfjaaDoor
open Go.RowKit
set_option maxRecDepth 100000 in
set_option maxHeartbeats 4000000 in
theorem FixedpointAdds_sat (v : Value) (xs : List Int) (q : Nat) (w : World) (h : I32s w v xs) (hx : ∀ i ∈ xs, -2147483648 ≤ i ∧ i ≤ 2147483647) (hq : q ≤ 255) (hm : MxL w) (ht : TbL w) :
    SatV Tryd.prog 9 [v, .int .u8 (q : Int)] w (.bool true) := by
  have hl := lnL_len xs
  have hb := lnL_bd xs
  have cL := fun w1 (hbw : Below w.heap.size w w1) => lengths_sat v xs w1 (Sl.below h hbw) hx
  generalize lnL xs = M at *
  have s1 := sumR_small M (by omega) hb
  obtain ⟨k, hk⟩ : ∃ k, k = q % (M.length + 1) := ⟨_, rfl⟩
  have hkl : k ≤ M.length := by have := Nat.mod_lt q (show 0 < M.length + 1 by omega);omega
  have s2 := sumR_small (M.take k) (by rw [List.length_take];omega) (fun x hx => hb x (List.mem_of_mem_take hx))
  have s3 := sumR_small (M.drop k) (by rw [List.length_drop];omega) (fun x hx => hb x (List.mem_of_mem_drop hx))
  have s4 := sumR_small M.reverse (by rw [List.length_reverse];omega) (fun x hx => hb x (List.mem_reverse.1 hx))
  have e1 : sm M = sm (M.take k) + sm (M.drop k) := by rw [← sm_app, List.take_append_drop]
  have e2 : sm M.reverse = sm M := sm_perm (List.reverse_perm M)
  have b2 := sm_bd (M.take k) 1048576 (fun x hx => hb x (List.mem_of_mem_take hx))
  have b3 := sm_bd (M.drop k) 1048576 (fun x hx => hb x (List.mem_of_mem_drop hx))
  have b2' : ((M.take k).length : Int) * 1048576 ≤ 20 * 1048576 := Int.mul_le_mul_of_nonneg_right (by rw [List.length_take];omega) (by decide)
  have b3' : ((M.drop k).length : Int) * 1048576 ≤ 20 * 1048576 := Int.mul_le_mul_of_nonneg_right (by rw [List.length_drop];omega) (by decide)
  have hN : M.length ≤ 20 := by omega
  rw [e2] at s4
  refine SatL.of 73 [4] Tryd.func9 (by kernel_rfl) (by kernel_rfl) rfl rfl rfl rfl ?_
  repeat' (first|(apply OK_seq)|(apply thenQ_n)|(apply OK_region)|(apply OKx_gc 27;exact rfl; refine OKx_call (f := 27) rfl rfl (fun w1 hp => cL w1 hp.below) ?_; rintro _ _ ⟨na, nc, rfl, rfl⟩; rw [List.cons_append, List.nil_append]; refine OKx_worldL fun w9 hp9 => ?_; have hroom := (hp9.ints 0 rfl (by omega)).sl.room _ _ _ rfl)|(apply OKx_gv; refine OKx_conv rfl rfl Tryd.underlying3 (by omega) (by omega) ?_)|(apply OKx_gn; refine OKx_remN (a := q) (b := M.length + 1) rfl rfl (by omega) (by omega) ?_; rw [← hk])|(refine OKx_slHo rfl rfl (by omega) ?_)|(refine OKx_slLo rfl rfl (by omega) ?_; intro a' ha')|(apply OKx_gc 18;exact rfl; refine OKx_callV (f := 18) (v := .tuple #[.int .i64 (sm M), .int .i64 0]) rfl rfl rfl (fun w1 hp => by have := Sum_sat _ M w1 (hp.ints 0 rfl (by omega)); rwa [s1] at this) ?_)|(apply OKx_gc 18;exact rfl; refine OKx_callV (f := 18) (v := .tuple #[.int .i64 (sm (M.take k)), .int .i64 0]) rfl rfl rfl (fun w1 hp => by have := Sum_sat _ (M.take k) w1 ((hp.ints 0 rfl (by omega)).take2 hkl); rwa [s2] at this) ?_)|(apply OKx_gc 18;exact rfl; refine OKx_callV (f := 18) (v := .tuple #[.int .i64 (sm (M.drop k)), .int .i64 0]) rfl rfl rfl (fun w1 hp => by have := Sum_sat _ (M.drop k) w1 ((hp.ints 0 rfl (by omega)).drop2 hkl ha'); rwa [s3] at this) ?_)|(apply OKx_gc 28;exact rfl; refine OKx_call (f := 28) rfl rfl (fun w1 hp => clone_int_sat _ M w1 (hp.ints 0 rfl (by omega)) (by omega)) ?_; rintro vo _ rfl; rw [List.cons_append, List.nil_append]; refine OKx_worldL fun w8 hp8 => ?_; obtain ⟨ya, yc, rfl, _⟩ := Ints.form (hp8.ints 0 rfl (by omega)); have hya : 0 < M.length → ∃ g, ya = some ⟨g, 0, none⟩ := (fun h0 => by obtain ⟨g, c, e⟩ := hp8.rowForm 0 rfl h0; simp only [Value.slice.injEq] at e; exact ⟨g, e.1⟩))|(apply OKx_gc 29;exact rfl; refine OKx_callL (f := 29) rfl rfl (reverse_int_sat ya M.length yc (ints M) _ w (ints_len M) (by omega) hya (fun j hj => by rw [List.getD_eq_getElem?_getD, ints_get M j hj]; exact ⟨rfl, rfl⟩)) ?_; rintro _ _ ⟨rfl, rfl⟩; rw [show (ints M).reverse = ints M.reverse from (List.map_reverse).symm])|(apply OKx_gc 18;exact rfl; refine OKx_callV (f := 18) (v := .tuple #[.int .i64 (sm M), .int .i64 0]) rfl rfl rfl (fun w1 hp => by have := Sum_sat _ M.reverse w1 (hp.ints 0 (xs := M.reverse) rfl (by omega)); rwa [s4] at this) ?_)|(apply OKx_gb; refine OKx_max4 (r := 0) rfl rfl rfl rfl (by decide) ?_)|(apply OKx_gn; refine OKx_add rfl rfl (by omega) (by omega) ?_)|(apply OKx_gc 10;exact rfl; refine OKx_callV (f := 10) rfl rfl rfl (fun w1 hp => awake02_sat w1 (hm.below hp.below) (ht.below hp.below)) ?_)|(apply OKx_nilK)|(apply OK_block)|(apply blockQ_n)|(apply blockQ_s)|(apply thenQ_e)|(apply blockQ_e;exact rfl)|(apply thenQ_r)|(apply blockQ_r)|(apply OK_condT;exact rfl)|(apply OK_condF;exact rfl)|(apply OK_skip)|(apply OK_exit)|(apply OK_ret)|(apply OKx_move;(conv=>lhs;whnf)<;>exact rfl)|(apply OKx_assign;(conv=>lhs;whnf)<;>exact rfl)|(apply OKx_len;exact rfl)|(apply OKx_lenR;(conv=>lhs;whnf)<;>exact rfl;(with_reducible assumption))|(apply OKx_lenR2;(conv=>lhs;whnf)<;>exact rfl;(with_reducible assumption))|(apply OKx_lenO;(conv=>lhs;whnf)<;>exact rfl;(first | exact at0|exact at1|exact at2|exact at3|exact at4|exact at5|exact at6|exact at7))|(apply OKx_eql;exact rfl;exact rfl;all_goals (intro _; try (exfalso;omega)))|(apply OKx_inc;exact rfl;exact rfl;omega)|(apply OKx_addN;exact rfl;exact rfl;omega)|(apply OKx_add;exact rfl;exact rfl;omega;omega)|(apply OKx_max;exact rfl;exact rfl)|(apply OKx_pickT;exact rfl;(conv=>lhs;whnf)<;>exact rfl)|(apply OKx_pickF;exact rfl;(conv=>lhs;whnf)<;>exact rfl)|(apply OKx_guardT;exact rfl;exact rfl)|(apply OKx_guardF;exact rfl;exact rfl)|(apply OKx_guardU;exact rfl;exact rfl)|(apply OKx_extract;exact rfl;(conv=>lhs;whnf)<;>exact rfl))
  refine bodyQ_r1 (by ((conv=>lhs;whnf)<;>exact rfl)) ?_
  exact ⟨_, Ent.nil, rfl, rfl⟩
end Go.Proofs.YtkimmlhcaanfjaaDoor
namespace Go.Proofs.YtkimmlhcaanfjaaDoor
open Go.RowKit
theorem tbl_of {l : List (String × DataW Unit)} {W : World} (h : laidMetH Tryd.prog l W) (hf : l.filter (fun x => x.1 == "internal/strconv.uint64pow10") = [("internal/strconv.uint64pow10", Lib.tabData .u64 Lib.pow10Tab)]) : TbL W := by
  have h1 := h.filter (fun x => x.1 == "internal/strconv.uint64pow10")
  rw [hf, MakeChecks.laidMetH_plain _ _ _ (by rfl)] at h1
  exact Lib.tabIs_of_head (g := 1) (t := 95) (e := 61) (n := 20) (by kernel_rfl) (by kernel_rfl) Tryd.underlying95 Tryd.underlying61 (by kernel_rfl) (by kernel_rfl) h1
end Go.Proofs.YtkimmlhcaanfjaaDoor
namespace Go.Proofs.YtkimmlhcaanfjaaDoor
theorem changeAndS {H : Type} {enc : TypeId × Value → H} {a : Assume} {C : Checked} {os : Os} {f : FuncId} {fn : Func} {s : ChangeSpec} {conds : List PathCond} {apart fresh handsOn again : Bool} {X : World → Array Value → Prop}
    (hX : ∀ (w w' : World) (args : Array Value), w.heap = w'.heap → X w args → X w' args)
    (own : ownKnob C.prog.godebug = none) (started : os.Started) (noInit : C.prog.inits.idxOf? f = none) (hfn : C.prog.funcs[f]? = some fn)
    (witness : ∃ (w : World) (tape : Tape) (i : Input), w.os = os ∧ (w.forCall tape i).Shaped C.prog ∧ i.vars = [] ∧ Input.okWide C.prog (w.forCall tape i) .any w.heap.size f i ∧
      ((s.pre enc C.prog fn conds apart (w.forCall tape i).memory i.args ∧ X (w.forCall tape i).memory i.args) ∧ sizedMet enc C.prog fn (OpenSpec.ofChange s) apart (w.forCall tape i).memory i.args) ∧ a.holds C.prog (lone (Frame.enter C.prog f i.args .normal) [] (w.forCall tape i)))
    (contract : ∀ (W : World) (base : Nat) (args : Array Value) (ds gs : List (DataW H)) (before : List MemPlace),
      (∀ (j : Nat) t v, fn.params[j]? = some t → args[j]? = some v → Value.okWide C.prog W .any base t v) →
      DataW.Whole enc C.prog fn.params.toList s.vars apart W args.toList ds gs before →
      conds.all (PathCond.test C.prog ⟨fn.params.toList, ds, s.plain.varTypes C.prog, gs⟩) = true →
      (DataW.weightsEach C.prog (fn.params.toList ++ s.plain.varTypes C.prog) (ds ++ gs)).all (· ≤ reachBytes) = true → X W args → W.ShapedOpen C.prog →
      a.holds C.prog (lone (Frame.enter C.prog f args .normal) [] W) →
      Calls C.prog f args W fun e W' => ∃ v, e = .returned v ∧ s.post enc C.prog fn apart fresh handsOn again W args v W') :
    ReturnsInHanded a C os f .any (fun w args => (s.pre enc C.prog fn conds apart w args ∧ X w args) ∧ sizedMet enc C.prog fn (OpenSpec.ofChange s) apart w args) (s.post enc C.prog fn apart fresh handsOn again) := by
  refine returnsInHanded_of_calls own started noInit witness ?_
  intro w tape i _ hsh _ hok hpre hholds
  obtain ⟨_, _, _, fn', hfn', _, _, _, _, hval⟩ := hok
  have e : fn' = fn := Option.some.inj (hfn'.symm.trans hfn)
  subst e
  obtain ⟨⟨⟨ds, gs, before, hw, hc⟩, hx⟩, hz⟩ := hpre
  have hw' := DataW.Whole.of_heap (w' := w.forCall tape i) (by rfl) hw
  refine (contract (w.forCall tape i) w.heap.size i.args ds gs before hval hw' hc (hz.weights hw) (hX _ _ _ (by rfl) hx) hsh hholds).mono fun e W' ⟨v, he, hp⟩ => ?_
  subst he
  exact ChangeSpec.post_blind hp
end Go.Proofs.YtkimmlhcaanfjaaDoor
