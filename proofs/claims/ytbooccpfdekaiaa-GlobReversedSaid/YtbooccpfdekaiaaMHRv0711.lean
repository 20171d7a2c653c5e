/-
  Part 11 of the proof: Gh07, Stl, Bld. No statement of the seat is proved here.
-/
import Derived.Test.YtbooccpfdekaiaaMHRv0710
import Derived.StringKeys
import Derived.Lib.Join
import Derived.Shelf.Strings.BuilderF
import Derived.Shelf.Strings.OnBuilder
namespace Go.Proofs.Ytbooccpfdekaiaa
open Go.RowKit
theorem litL_snoc (x : List UInt8) : ∀ l : List (List UInt8), litL (l ++ [x]) = match litL l, elOne x with
    | some v, some c => some (v ++ [c])
    | _, _ => none
  | [] => by
    show (match elOne x, litL [] with | some c, some v => some (c :: v) | _, _ => none) = _
    cases elOne x <;> rfl
  | y :: l => by
    rw [List.cons_append]
    show (match elOne y, litL (l ++ [x]) with | some c, some v => some (c :: v) | _, _ => none) = _
    rw [litL_snoc x l]
    show _ = match (match elOne y, litL l with | some c, some v => some (c :: v) | _, _ => none), elOne x with | some v, some c => some (v ++ [c]) | _, _ => none
    cases elOne y <;> cases litL l <;> cases elOne x <;> rfl
theorem litL_cut (l m : List (List UInt8)) (h : litL l = none) : litL (l ++ m) = none := by
  induction l with
  | nil => cases h
  | cons y l ih =>
    rw [List.cons_append]
    show (match elOne y, litL (l ++ m) with | some c, some v => some (c :: v) | _, _ => none) = none
    have h' : (match elOne y, litL l with | some c, some v => some (c :: v) | _, _ => none) = (none : Option (List UInt8)) := h
    cases hy : elOne y with
    | none => rfl
    | some c =>
      rw [hy] at h'
      cases hl : litL l with
      | none => rw [ih hl]
      | some v => rw [hl] at h'; cases h'
def setV (s : UInt8 → Bool) : List Value := (List.range 256).map (fun c => .bool (s (UInt8.ofNat c)))
theorem setV_len (s : UInt8 → Bool) : (setV s).length = 256 := by unfold setV; rw [List.length_map, List.length_range]
theorem setV_at (s : UInt8 → Bool) (c : Nat) (hc : c < 256) : (setV s)[c]? = some (.bool (s (UInt8.ofNat c))) := by
  unfold setV
  simp [hc]
theorem setV_arr (s : UInt8 → Bool) (c : Nat) (hc : c < 256) : (setV s).toArray[c]? = some (.bool (s (UInt8.ofNat c))) := by
  rw [List.getElem?_toArray]; exact setV_at s c hc
attribute [irreducible] setV
def numsJ (x : List UInt8) (j : Nat) : List Nat := (List.range j).filter (fun k => elHas x (UInt8.ofNat k))
theorem numsJ_succ (x : List UInt8) (j : Nat) : numsJ x (j + 1) = if elHas x (UInt8.ofNat j) then numsJ x j ++ [j] else numsJ x j := by
  unfold numsJ
  rw [List.range_succ, List.filter_append]
  cases h : elHas x (UInt8.ofNat j) with
  | true => rw [if_pos rfl, List.filter_cons, if_pos h]; rfl
  | false => rw [if_neg (by decide), List.filter_cons, if_neg (by rw [h]; decide)]; exact List.append_nil _
theorem numsJ_le (x : List UInt8) (j : Nat) : (numsJ x j).length ≤ j := by
  unfold numsJ
  exact Nat.le_trans (List.length_filter_le _ _) (by rw [List.length_range];omega)
def lastN (l : List Nat) : Nat := l.getLastD 0
theorem lastN_snoc (l : List Nat) (k : Nat) : lastN (l ++ [k]) = k := by unfold lastN; simp [List.getLastD_eq_getLast?]
theorem lastN_bd (x : List UInt8) (j : Nat) (hj : j ≤ 256) : lastN (numsJ x j) < 256 := by
  induction j with
  | zero => exact (by decide : (0 : Nat) < 256)
  | succ j ih =>
    rw [numsJ_succ]
    split
    · rw [lastN_snoc];omega
    · exact ih (by omega)
theorem elOne_of {x : List UInt8} (ha : elAny x = false) (hn : (numsJ x 256).length = 1) : elOne x = some (UInt8.ofNat (lastN (numsJ x 256))) := by
  unfold elOne
  rw [if_neg (by rw [ha]; decide)]
  have e : elNums x = numsJ x 256 := rfl
  rw [e]
  match hm : numsJ x 256, hn with
  | [k], _ => rfl
theorem elOne_not {x : List UInt8} (h : elAny x = true ∨ (numsJ x 256).length ≠ 1) : elOne x = none := by
  unfold elOne
  by_cases ha : elAny x = true
  · rw [if_pos ha]
  rw [if_neg ha]
  have hn : (numsJ x 256).length ≠ 1 := h.resolve_left ha
  have e : elNums x = numsJ x 256 := rfl
  rw [e]
  match hm : numsJ x 256 with
  | [] => rfl
  | [k] => rw [hm] at hn; exact absurd rfl hn
  | _ :: _ :: _ => rfl
def litW (p : List UInt8) : List UInt8 := if patE p ≠ 0 then [] else (litL (prts p)).getD []
def litB (p : List UInt8) : Bool := if patE p ≠ 0 then false else (litL (prts p)).isSome
def litE (p : List UInt8) : Int := if patE p ≠ 0 then 1 else 0
def u8L (l : List UInt8) : List Value := l.map fun b => .int .u8 (b.toNat : Int)
theorem u8L_snoc (l : List UInt8) (b : UInt8) : u8L (l ++ [b]) = u8L l ++ [.int .u8 (b.toNat : Int)] := by unfold u8L; rw [List.map_append]; rfl
set_option maxRecDepth 100000 in
set_option maxHeartbeats 4000000 in
theorem Literal_sat (p : List UInt8) (w : World) (hp : p.length ≤ 140737488355328) : SatV Try.prog 17 [.string (bOf p)] w (.tuple #[.string (bOf (litW p)), .bool (litB p), .int .i64 (litE p)]) := by
  unfold litW litB litE
  by_cases h : patE p = 0
  rotate_left
  · rw [if_pos h, if_pos h, if_pos h]
    refine SatL.of 52 [2, 3, 4] Try.func17 (by kernel_rfl) (by kernel_rfl) rfl rfl rfl rfl ?_
    repeat' (first|(apply OK_seq)|(apply thenQ_n)|(apply OK_region)|(apply OKx_gc 34;exact rfl; refine OKx_callV (f := 34) rfl rfl rfl (fun w1 hp1 => elements_bad p w1 hp h) ?_)|(apply OKx_nilK)|(apply OK_block)|(apply blockQ_n)|(apply blockQ_s)|(apply thenQ_e)|(apply blockQ_e;exact rfl)|(apply thenQ_r)|(apply blockQ_r)|(apply OK_condT;exact rfl)|(apply OK_condF;exact rfl)|(apply OK_skip)|(apply OK_exit)|(apply OK_ret)|(apply OKx_move;(conv=>lhs;whnf)<;>exact rfl)|(apply OKx_assign;(conv=>lhs;whnf)<;>exact rfl)|(apply OKx_ldB;exact rfl;(first | exact at0|exact at1|exact at2|exact at3|exact at4|exact at5|exact at6|exact at7);exact rfl)|(apply OKx_ldR;(conv=>lhs;whnf)<;>exact rfl;(with_reducible assumption))|(apply OKx_len;exact rfl)|(apply OKx_lenR;(conv=>lhs;whnf)<;>exact rfl;(with_reducible assumption))|(apply OKx_lenR2;(conv=>lhs;whnf)<;>exact rfl;(with_reducible assumption))|(apply OKx_lenO;(conv=>lhs;whnf)<;>exact rfl;(first | exact at0|exact at1|exact at2|exact at3|exact at4|exact at5|exact at6|exact at7))|(apply OKx_lss;exact rfl;exact rfl;all_goals (intro _; try (exfalso;omega)))|(apply OKx_neq;exact rfl;exact rfl;all_goals (intro _; try (exfalso;omega)))|(apply OKx_idxR2;(conv=>lhs;whnf)<;>exact rfl;(with_reducible assumption);exact rfl;omega;intro _ _)|(apply OKx_idxS;exact rfl;exact rfl;omega)|(apply OKx_fldO;exact rfl;exact rfl)|(apply OKx_fldR;(conv=>lhs;whnf)<;>exact rfl;(with_reducible assumption); decide;intro _ _)|(apply OKx_inc;exact rfl;exact rfl;omega)|(apply OKx_addN;exact rfl;exact rfl;omega)|(apply OKx_add;exact rfl;exact rfl;omega;omega)|(apply OKx_pickT;exact rfl;(conv=>lhs;whnf)<;>exact rfl)|(apply OKx_pickF;exact rfl;(conv=>lhs;whnf)<;>exact rfl)|(apply OKx_guardT;exact rfl;exact rfl)|(apply OKx_guardF;exact rfl;exact rfl)|(apply OKx_guardU;exact rfl;exact rfl)|(apply OKx_extract;exact rfl;(conv=>lhs;whnf)<;>exact rfl)|(apply OKx_allocA;intro _)|(apply OKx_ldBA;exact rfl;(first | exact at0|exact at1|exact at2|exact at3|exact at4|exact at5|exact at6|exact at7);exact rfl)|(apply OKx_ldRA;(conv=>lhs;whnf)<;>exact rfl;(with_reducible assumption))|(apply OKx_ldBo;exact rfl;(first | exact at0|exact at1|exact at2|exact at3|exact at4|exact at5|exact at6|exact at7);omega)|(apply OKx_slit1;(conv=>lhs;whnf)<;>exact rfl;exact rfl;intro _)|(apply OKx_stBA; kernel_rfl;exact rfl;exact rfl;exact rfl;(first | exact at0|exact at1|exact at2|exact at3|exact at4|exact at5|exact at6|exact at7);exact rfl;exact rfl;exact rfl))
    refine bodyQ_r3 (by ((conv=>lhs;whnf)<;>exact rfl)) (by ((conv=>lhs;whnf)<;>exact rfl)) (by ((conv=>lhs;whnf)<;>exact rfl)) ?_
    exact ⟨_, Ent.nil, rfl, rfl⟩
  rw [if_neg (fun hh => hh h), if_neg (fun hh => hh h), if_neg (fun hh => hh h)]
  have hl := (patE_len h).1
  have hpl := prts_len p
  refine SatL.of 52 [2, 3, 4] Try.func17 (by kernel_rfl) (by kernel_rfl) rfl rfl rfl rfl ?_
  repeat' (first|(apply OK_seq)|(apply thenQ_n)|(apply OK_region)|(apply OKx_gc 34;exact rfl; refine OKx_call (f := 34) rfl rfl (fun w1 hp1 => elements_ok p w1 hp h) ?_; rintro _ _ ⟨v, rfl, rfl⟩)|(apply OKx_gb; refine OKx_lenO 0 rfl rfl ?_)|(apply OKx_nilK)|(apply OK_block)|(apply blockQ_n)|(apply blockQ_s)|(apply thenQ_e)|(apply blockQ_e;exact rfl)|(apply thenQ_r)|(apply blockQ_r)|(apply OK_condT;exact rfl)|(apply OK_condF;exact rfl)|(apply OK_skip)|(apply OK_exit)|(apply OK_ret)|(apply OKx_move;(conv=>lhs;whnf)<;>exact rfl)|(apply OKx_assign;(conv=>lhs;whnf)<;>exact rfl)|(apply OKx_ldB;exact rfl;(first | exact at0|exact at1|exact at2|exact at3|exact at4|exact at5|exact at6|exact at7);exact rfl)|(apply OKx_ldR;(conv=>lhs;whnf)<;>exact rfl;(with_reducible assumption))|(apply OKx_len;exact rfl)|(apply OKx_lenR;(conv=>lhs;whnf)<;>exact rfl;(with_reducible assumption))|(apply OKx_lenR2;(conv=>lhs;whnf)<;>exact rfl;(with_reducible assumption))|(apply OKx_lenO;(conv=>lhs;whnf)<;>exact rfl;(first | exact at0|exact at1|exact at2|exact at3|exact at4|exact at5|exact at6|exact at7))|(apply OKx_lss;exact rfl;exact rfl;all_goals (intro _; try (exfalso;omega)))|(apply OKx_neq;exact rfl;exact rfl;all_goals (intro _; try (exfalso;omega)))|(apply OKx_idxR2;(conv=>lhs;whnf)<;>exact rfl;(with_reducible assumption);exact rfl;omega;intro _ _)|(apply OKx_idxS;exact rfl;exact rfl;omega)|(apply OKx_fldO;exact rfl;exact rfl)|(apply OKx_fldR;(conv=>lhs;whnf)<;>exact rfl;(with_reducible assumption); decide;intro _ _)|(apply OKx_inc;exact rfl;exact rfl;omega)|(apply OKx_addN;exact rfl;exact rfl;omega)|(apply OKx_add;exact rfl;exact rfl;omega;omega)|(apply OKx_pickT;exact rfl;(conv=>lhs;whnf)<;>exact rfl)|(apply OKx_pickF;exact rfl;(conv=>lhs;whnf)<;>exact rfl)|(apply OKx_guardT;exact rfl;exact rfl)|(apply OKx_guardF;exact rfl;exact rfl)|(apply OKx_guardU;exact rfl;exact rfl)|(apply OKx_extract;exact rfl;(conv=>lhs;whnf)<;>exact rfl)|(apply OKx_allocA;intro _)|(apply OKx_ldBA;exact rfl;(first | exact at0|exact at1|exact at2|exact at3|exact at4|exact at5|exact at6|exact at7);exact rfl)|(apply OKx_ldRA;(conv=>lhs;whnf)<;>exact rfl;(with_reducible assumption))|(apply OKx_ldBo;exact rfl;(first | exact at0|exact at1|exact at2|exact at3|exact at4|exact at5|exact at6|exact at7);omega)|(apply OKx_slit1;(conv=>lhs;whnf)<;>exact rfl;exact rfl;intro _)|(apply OKx_stBA; kernel_rfl;exact rfl;exact rfl;exact rfl;(first | exact at0|exact at1|exact at2|exact at3|exact at4|exact at5|exact at6|exact at7);exact rfl;exact rfl;exact rfl))
  refine OK_loop2 7 23 [2, 3, 4, 7, 9, 10, 11, 12, 13, 23, 24, 25, 26, 27, 28, 29, 30, 31, 32, 33, 34, 35, 36, 37, 38, 39, 40, 41, 42, 43, 44, 45, 46, 47, 48, 49] (fun mm u1 u2 L => ∃ (k : Nat) (o : List UInt8), k + mm = (prts p).length ∧ litL ((prts p).take k) = some o ∧ o.length = k ∧ u2 = .int .i64 (k : Int) ∧ L = [.row 5 1 u1 k (u8L o), elsRes v p]) (prts p).length _ (Ent.mk fun w1 h1 => h1.nil _ _) ⟨0, [], by omega, rfl, rfl, rfl, rfl⟩ ?_
  rintro mm u1 u2 L G ⟨k, o, hkm, hlit, hol, rfl, rfl⟩
  by_cases hk : k < (prts p).length
  · refine OK_world7 fun w1 hw1 => ?_
    obtain ⟨g, cap, rfl⟩ := hw1.rowForm 1 rfl (by omega)
    have hcell := elX_at hk
    have hX0 := elX_at0 p k
    have hset : ∀ j, j < 256 → (elX p k)[1 + j]? = (setV (elHas ((prts p).getD k [])))[j]? := fun j hj => by rw [elX_c p k j hj, setV_at _ j hj]
    have htk : (prts p).take (k + 1) = (prts p).take k ++ [(prts p).getD k []] := by
      rw [List.take_add_one, List.getElem?_eq_getElem hk, getD_lt _ _ _ hk]; rfl
    have hsn := litL_snoc ((prts p).getD k []) ((prts p).take k)
    rw [← htk, hlit] at hsn
    have hno : elOne ((prts p).getD k []) = none → litL (prts p) = none := fun he => by
      rw [he] at hsn
      have := litL_cut _ ((prts p).drop (k + 1)) hsn
      rwa [List.take_append_drop] at this
    generalize (prts p).getD k [] = x at hX0 hset hsn hno htk
    repeat' (first|(apply OK_seq)|(apply thenQ_n)|(apply OK_region)|(apply OKx_gi; refine OKx_idxOn (i := k) rfl rfl hk ?_)|(apply OKx_gl; refine OKx_ldWA (k := k * 259) (vs := elX p k) 1 rfl rfl (by omega) (elX_len _ _) hcell ?_)|(apply OKx_gs; refine OKx_stBA (by kernel_rfl) (cs' := (elX p k).toArray) 0 rfl rfl (List.all_eq_true.2 (elX_one _ _)) rfl (by rw [List.toList_toArray, elX_len] <;> kernel_rfl) (by rw [List.toList_toArray, elX_len] <;> rfl) rfl ?_)|(apply OKx_gl; refine OKx_ldBAk (k := 1) (e := 51) (cs := elX p k) (vs := setV (elHas x)) 0 rfl rfl (setV_len _) hset ?_)|(apply OKx_nilK)|(apply OK_block)|(apply blockQ_n)|(apply blockQ_s)|(apply thenQ_e)|(apply blockQ_e;exact rfl)|(apply thenQ_r)|(apply blockQ_r)|(apply OK_condT;exact rfl)|(apply OK_condF;exact rfl)|(apply OK_skip)|(apply OK_exit)|(apply OK_ret)|(apply OKx_move;(conv=>lhs;whnf)<;>exact rfl)|(apply OKx_assign;(conv=>lhs;whnf)<;>exact rfl)|(apply OKx_ldB;exact rfl;(first | exact at0|exact at1|exact at2|exact at3|exact at4|exact at5|exact at6|exact at7);exact rfl)|(apply OKx_ldR;(conv=>lhs;whnf)<;>exact rfl;(with_reducible assumption))|(apply OKx_len;exact rfl)|(apply OKx_lenR;(conv=>lhs;whnf)<;>exact rfl;(with_reducible assumption))|(apply OKx_lenR2;(conv=>lhs;whnf)<;>exact rfl;(with_reducible assumption))|(apply OKx_lenO;(conv=>lhs;whnf)<;>exact rfl;(first | exact at0|exact at1|exact at2|exact at3|exact at4|exact at5|exact at6|exact at7))|(apply OKx_lss;exact rfl;exact rfl;all_goals (intro _; try (exfalso;omega)))|(apply OKx_neq;exact rfl;exact rfl;all_goals (intro _; try (exfalso;omega)))|(apply OKx_idxR2;(conv=>lhs;whnf)<;>exact rfl;(with_reducible assumption);exact rfl;omega;intro _ _)|(apply OKx_idxS;exact rfl;exact rfl;omega)|(apply OKx_fldO;exact rfl;exact rfl)|(apply OKx_fldR;(conv=>lhs;whnf)<;>exact rfl;(with_reducible assumption); decide;intro _ _)|(apply OKx_inc;exact rfl;exact rfl;omega)|(apply OKx_addN;exact rfl;exact rfl;omega)|(apply OKx_add;exact rfl;exact rfl;omega;omega)|(apply OKx_pickT;exact rfl;(conv=>lhs;whnf)<;>exact rfl)|(apply OKx_pickF;exact rfl;(conv=>lhs;whnf)<;>exact rfl)|(apply OKx_guardT;exact rfl;exact rfl)|(apply OKx_guardF;exact rfl;exact rfl)|(apply OKx_guardU;exact rfl;exact rfl)|(apply OKx_extract;exact rfl;(conv=>lhs;whnf)<;>exact rfl)|(apply OKx_allocA;intro _)|(apply OKx_ldBA;exact rfl;(first | exact at0|exact at1|exact at2|exact at3|exact at4|exact at5|exact at6|exact at7);exact rfl)|(apply OKx_ldRA;(conv=>lhs;whnf)<;>exact rfl;(with_reducible assumption))|(apply OKx_ldBo;exact rfl;(first | exact at0|exact at1|exact at2|exact at3|exact at4|exact at5|exact at6|exact at7);omega)|(apply OKx_slit1;(conv=>lhs;whnf)<;>exact rfl;exact rfl;intro _)|(apply OKx_stBA; kernel_rfl;exact rfl;exact rfl;exact rfl;(first | exact at0|exact at1|exact at2|exact at3|exact at4|exact at5|exact at6|exact at7);exact rfl;exact rfl;exact rfl))
    rename_i g9
    refine OK_loop3 10 11 29 [10, 11, 12, 13, 29, 30, 31, 32, 33, 34, 35, 36, 37, 38] (fun mm u1' u2' u3' L => ∃ j : Nat, j + mm = 256 ∧ u1' = .int .i64 (((numsJ x j).length : Nat) : Int) ∧ u2' = .int .u8 ((lastN (numsJ x j) : Nat) : Int) ∧ u3' = .int .i64 (j : Int) ∧ L = [.box 51 g9 (elX p k), .row 5 1 u1 k (u8L o), elsRes (.slice (some ⟨g, 0, none⟩) (prts p).length cap) p]) 256 _ (Ent.refl _ _) ⟨0, rfl, rfl, rfl, rfl, rfl⟩ ?_
    rintro mm2 u1' u2' u3' L G2 ⟨j, hjm, rfl, rfl, rfl, rfl⟩
    by_cases hj : j < 256
    · have hsa := setV_arr (elHas x) j hj
      have hns := numsJ_succ x j
      have hnl := numsJ_le x j
      have hw8 : IntKind.u8.wrap (j : Int) = (j : Int) := by rw [IntKind.wrap_u8];omega
      cases hh : elHas x (UInt8.ofNat j) with
      | true =>
        rw [hh] at hsa
        rw [hh, if_pos rfl] at hns
        repeat' (first|(apply OK_seq)|(apply thenQ_n)|(apply OK_region)|(refine OKx_idxAgg (i := j) Try.underlying49 rfl rfl hj hsa ?_)|(refine OKx_convK (k2 := .u8) (r := (j : Int)) rfl rfl Try.underlying5 hw8 ?_)|(apply OKx_nilK)|(apply OK_block)|(apply blockQ_n)|(apply blockQ_s)|(apply thenQ_e)|(apply blockQ_e;exact rfl)|(apply thenQ_r)|(apply blockQ_r)|(apply OK_condT;exact rfl)|(apply OK_condF;exact rfl)|(apply OK_skip)|(apply OK_exit)|(apply OK_ret)|(apply OKx_move;(conv=>lhs;whnf)<;>exact rfl)|(apply OKx_assign;(conv=>lhs;whnf)<;>exact rfl)|(apply OKx_ldB;exact rfl;(first | exact at0|exact at1|exact at2|exact at3|exact at4|exact at5|exact at6|exact at7);exact rfl)|(apply OKx_ldR;(conv=>lhs;whnf)<;>exact rfl;(with_reducible assumption))|(apply OKx_len;exact rfl)|(apply OKx_lenR;(conv=>lhs;whnf)<;>exact rfl;(with_reducible assumption))|(apply OKx_lenR2;(conv=>lhs;whnf)<;>exact rfl;(with_reducible assumption))|(apply OKx_lenO;(conv=>lhs;whnf)<;>exact rfl;(first | exact at0|exact at1|exact at2|exact at3|exact at4|exact at5|exact at6|exact at7))|(apply OKx_lss;exact rfl;exact rfl;all_goals (intro _; try (exfalso;omega)))|(apply OKx_neq;exact rfl;exact rfl;all_goals (intro _; try (exfalso;omega)))|(apply OKx_idxR2;(conv=>lhs;whnf)<;>exact rfl;(with_reducible assumption);exact rfl;omega;intro _ _)|(apply OKx_idxS;exact rfl;exact rfl;omega)|(apply OKx_fldO;exact rfl;exact rfl)|(apply OKx_fldR;(conv=>lhs;whnf)<;>exact rfl;(with_reducible assumption); decide;intro _ _)|(apply OKx_inc;exact rfl;exact rfl;omega)|(apply OKx_addN;exact rfl;exact rfl;omega)|(apply OKx_add;exact rfl;exact rfl;omega;omega)|(apply OKx_pickT;exact rfl;(conv=>lhs;whnf)<;>exact rfl)|(apply OKx_pickF;exact rfl;(conv=>lhs;whnf)<;>exact rfl)|(apply OKx_guardT;exact rfl;exact rfl)|(apply OKx_guardF;exact rfl;exact rfl)|(apply OKx_guardU;exact rfl;exact rfl)|(apply OKx_extract;exact rfl;(conv=>lhs;whnf)<;>exact rfl)|(apply OKx_allocA;intro _)|(apply OKx_ldBA;exact rfl;(first | exact at0|exact at1|exact at2|exact at3|exact at4|exact at5|exact at6|exact at7);exact rfl)|(apply OKx_ldRA;(conv=>lhs;whnf)<;>exact rfl;(with_reducible assumption))|(apply OKx_ldBo;exact rfl;(first | exact at0|exact at1|exact at2|exact at3|exact at4|exact at5|exact at6|exact at7);omega)|(apply OKx_slit1;(conv=>lhs;whnf)<;>exact rfl;exact rfl;intro _)|(apply OKx_stBA; kernel_rfl;exact rfl;exact rfl;exact rfl;(first | exact at0|exact at1|exact at2|exact at3|exact at4|exact at5|exact at6|exact at7);exact rfl;exact rfl;exact rfl))
        refine ⟨by (repeat' (first | refine agree_upd rfl ?_ | exact agree_over | exact agree_refl _ _ | refine agree_over2 rfl ?_)), mm2 - 1, _, by omega, Ent.refl _ _, ?_⟩
        exact ⟨j + 1, by omega, by rw [hns, List.length_append] <;> rfl, by rw [hns, lastN_snoc] <;> rfl, rfl, rfl⟩
      | false =>
        rw [hh] at hsa
        rw [hh, if_neg (by decide)] at hns
        repeat' (first|(apply OK_seq)|(apply thenQ_n)|(apply OK_region)|(refine OKx_idxAgg (i := j) Try.underlying49 rfl rfl hj hsa ?_)|(apply OKx_nilK)|(apply OK_block)|(apply blockQ_n)|(apply blockQ_s)|(apply thenQ_e)|(apply blockQ_e;exact rfl)|(apply thenQ_r)|(apply blockQ_r)|(apply OK_condT;exact rfl)|(apply OK_condF;exact rfl)|(apply OK_skip)|(apply OK_exit)|(apply OK_ret)|(apply OKx_move;(conv=>lhs;whnf)<;>exact rfl)|(apply OKx_assign;(conv=>lhs;whnf)<;>exact rfl)|(apply OKx_ldB;exact rfl;(first | exact at0|exact at1|exact at2|exact at3|exact at4|exact at5|exact at6|exact at7);exact rfl)|(apply OKx_ldR;(conv=>lhs;whnf)<;>exact rfl;(with_reducible assumption))|(apply OKx_len;exact rfl)|(apply OKx_lenR;(conv=>lhs;whnf)<;>exact rfl;(with_reducible assumption))|(apply OKx_lenR2;(conv=>lhs;whnf)<;>exact rfl;(with_reducible assumption))|(apply OKx_lenO;(conv=>lhs;whnf)<;>exact rfl;(first | exact at0|exact at1|exact at2|exact at3|exact at4|exact at5|exact at6|exact at7))|(apply OKx_lss;exact rfl;exact rfl;all_goals (intro _; try (exfalso;omega)))|(apply OKx_neq;exact rfl;exact rfl;all_goals (intro _; try (exfalso;omega)))|(apply OKx_idxR2;(conv=>lhs;whnf)<;>exact rfl;(with_reducible assumption);exact rfl;omega;intro _ _)|(apply OKx_idxS;exact rfl;exact rfl;omega)|(apply OKx_fldO;exact rfl;exact rfl)|(apply OKx_fldR;(conv=>lhs;whnf)<;>exact rfl;(with_reducible assumption); decide;intro _ _)|(apply OKx_inc;exact rfl;exact rfl;omega)|(apply OKx_addN;exact rfl;exact rfl;omega)|(apply OKx_add;exact rfl;exact rfl;omega;omega)|(apply OKx_pickT;exact rfl;(conv=>lhs;whnf)<;>exact rfl)|(apply OKx_pickF;exact rfl;(conv=>lhs;whnf)<;>exact rfl)|(apply OKx_guardT;exact rfl;exact rfl)|(apply OKx_guardF;exact rfl;exact rfl)|(apply OKx_guardU;exact rfl;exact rfl)|(apply OKx_extract;exact rfl;(conv=>lhs;whnf)<;>exact rfl)|(apply OKx_allocA;intro _)|(apply OKx_ldBA;exact rfl;(first | exact at0|exact at1|exact at2|exact at3|exact at4|exact at5|exact at6|exact at7);exact rfl)|(apply OKx_ldRA;(conv=>lhs;whnf)<;>exact rfl;(with_reducible assumption))|(apply OKx_ldBo;exact rfl;(first | exact at0|exact at1|exact at2|exact at3|exact at4|exact at5|exact at6|exact at7);omega)|(apply OKx_slit1;(conv=>lhs;whnf)<;>exact rfl;exact rfl;intro _)|(apply OKx_stBA; kernel_rfl;exact rfl;exact rfl;exact rfl;(first | exact at0|exact at1|exact at2|exact at3|exact at4|exact at5|exact at6|exact at7);exact rfl;exact rfl;exact rfl))
        refine ⟨by (repeat' (first | refine agree_upd rfl ?_ | exact agree_over | exact agree_refl _ _ | refine agree_over2 rfl ?_)), mm2 - 1, _, by omega, Ent.refl _ _, ?_⟩
        exact ⟨j + 1, by omega, by rw [hns] <;> rfl, by rw [hns] <;> rfl, rfl, rfl⟩
    obtain rfl : j = 256 := by omega
    have hlb := lastN_bd x 256 (Nat.le_refl _)
    have hof := fun ha hn => elOne_of (x := x) ha hn
    have hnot := fun hh => elOne_not (x := x) hh
    have hnl := numsJ_le x 256
    generalize (numsJ x 256).length = cnt at hof hnot hnl ⊢
    generalize lastN (numsJ x 256) = ln at hof hlb ⊢
    by_cases hc1 : elAny x = true ∨ cnt ≠ 1
    · rw [hno (hnot hc1)]
      rcases Bool.eq_false_or_eq_true (elAny x) with ha | ha
      · rw [ha] at hX0
        repeat' (first|(apply OK_seq)|(apply thenQ_n)|(apply OK_region)|(apply OKx_gl; refine OKx_ldB (k := 0) (e := 51) (cs := elX p k) 0 rfl rfl hX0 ?_)|(apply OKx_nilK)|(apply OK_block)|(apply blockQ_n)|(apply blockQ_s)|(apply thenQ_e)|(apply blockQ_e;exact rfl)|(apply thenQ_r)|(apply blockQ_r)|(apply OK_condT;exact rfl)|(apply OK_condF;exact rfl)|(apply OK_skip)|(apply OK_exit)|(apply OK_ret)|(apply OKx_move;(conv=>lhs;whnf)<;>exact rfl)|(apply OKx_assign;(conv=>lhs;whnf)<;>exact rfl)|(apply OKx_ldB;exact rfl;(first | exact at0|exact at1|exact at2|exact at3|exact at4|exact at5|exact at6|exact at7);exact rfl)|(apply OKx_ldR;(conv=>lhs;whnf)<;>exact rfl;(with_reducible assumption))|(apply OKx_len;exact rfl)|(apply OKx_lenR;(conv=>lhs;whnf)<;>exact rfl;(with_reducible assumption))|(apply OKx_lenR2;(conv=>lhs;whnf)<;>exact rfl;(with_reducible assumption))|(apply OKx_lenO;(conv=>lhs;whnf)<;>exact rfl;(first | exact at0|exact at1|exact at2|exact at3|exact at4|exact at5|exact at6|exact at7))|(apply OKx_lss;exact rfl;exact rfl;all_goals (intro _; try (exfalso;omega)))|(apply OKx_neq;exact rfl;exact rfl;all_goals (intro _; try (exfalso;omega)))|(apply OKx_idxR2;(conv=>lhs;whnf)<;>exact rfl;(with_reducible assumption);exact rfl;omega;intro _ _)|(apply OKx_idxS;exact rfl;exact rfl;omega)|(apply OKx_fldO;exact rfl;exact rfl)|(apply OKx_fldR;(conv=>lhs;whnf)<;>exact rfl;(with_reducible assumption); decide;intro _ _)|(apply OKx_inc;exact rfl;exact rfl;omega)|(apply OKx_addN;exact rfl;exact rfl;omega)|(apply OKx_add;exact rfl;exact rfl;omega;omega)|(apply OKx_pickT;exact rfl;(conv=>lhs;whnf)<;>exact rfl)|(apply OKx_pickF;exact rfl;(conv=>lhs;whnf)<;>exact rfl)|(apply OKx_guardT;exact rfl;exact rfl)|(apply OKx_guardF;exact rfl;exact rfl)|(apply OKx_guardU;exact rfl;exact rfl)|(apply OKx_extract;exact rfl;(conv=>lhs;whnf)<;>exact rfl)|(apply OKx_allocA;intro _)|(apply OKx_ldBA;exact rfl;(first | exact at0|exact at1|exact at2|exact at3|exact at4|exact at5|exact at6|exact at7);exact rfl)|(apply OKx_ldRA;(conv=>lhs;whnf)<;>exact rfl;(with_reducible assumption))|(apply OKx_ldBo;exact rfl;(first | exact at0|exact at1|exact at2|exact at3|exact at4|exact at5|exact at6|exact at7);omega)|(apply OKx_slit1;(conv=>lhs;whnf)<;>exact rfl;exact rfl;intro _)|(apply OKx_stBA; kernel_rfl;exact rfl;exact rfl;exact rfl;(first | exact at0|exact at1|exact at2|exact at3|exact at4|exact at5|exact at6|exact at7);exact rfl;exact rfl;exact rfl))
        refine bodyQ_r3 (by ((conv=>lhs;whnf)<;>exact rfl)) (by ((conv=>lhs;whnf)<;>exact rfl)) (by ((conv=>lhs;whnf)<;>exact rfl)) ?_
        exact ⟨_, Ent.nil, rfl, rfl⟩
      · rw [ha] at hX0
        have hc1' : cnt ≠ 1 := hc1.resolve_left (by rw [ha]; decide)
        repeat' (first|(apply OK_seq)|(apply thenQ_n)|(apply OK_region)|(apply OKx_gl; refine OKx_ldB (k := 0) (e := 51) (cs := elX p k) 0 rfl rfl hX0 ?_)|(apply OKx_nilK)|(apply OK_block)|(apply blockQ_n)|(apply blockQ_s)|(apply thenQ_e)|(apply blockQ_e;exact rfl)|(apply thenQ_r)|(apply blockQ_r)|(apply OK_condT;exact rfl)|(apply OK_condF;exact rfl)|(apply OK_skip)|(apply OK_exit)|(apply OK_ret)|(apply OKx_move;(conv=>lhs;whnf)<;>exact rfl)|(apply OKx_assign;(conv=>lhs;whnf)<;>exact rfl)|(apply OKx_ldB;exact rfl;(first | exact at0|exact at1|exact at2|exact at3|exact at4|exact at5|exact at6|exact at7);exact rfl)|(apply OKx_ldR;(conv=>lhs;whnf)<;>exact rfl;(with_reducible assumption))|(apply OKx_len;exact rfl)|(apply OKx_lenR;(conv=>lhs;whnf)<;>exact rfl;(with_reducible assumption))|(apply OKx_lenR2;(conv=>lhs;whnf)<;>exact rfl;(with_reducible assumption))|(apply OKx_lenO;(conv=>lhs;whnf)<;>exact rfl;(first | exact at0|exact at1|exact at2|exact at3|exact at4|exact at5|exact at6|exact at7))|(apply OKx_lss;exact rfl;exact rfl;all_goals (intro _; try (exfalso;omega)))|(apply OKx_neq;exact rfl;exact rfl;all_goals (intro _; try (exfalso;omega)))|(apply OKx_idxR2;(conv=>lhs;whnf)<;>exact rfl;(with_reducible assumption);exact rfl;omega;intro _ _)|(apply OKx_idxS;exact rfl;exact rfl;omega)|(apply OKx_fldO;exact rfl;exact rfl)|(apply OKx_fldR;(conv=>lhs;whnf)<;>exact rfl;(with_reducible assumption); decide;intro _ _)|(apply OKx_inc;exact rfl;exact rfl;omega)|(apply OKx_addN;exact rfl;exact rfl;omega)|(apply OKx_add;exact rfl;exact rfl;omega;omega)|(apply OKx_pickT;exact rfl;(conv=>lhs;whnf)<;>exact rfl)|(apply OKx_pickF;exact rfl;(conv=>lhs;whnf)<;>exact rfl)|(apply OKx_guardT;exact rfl;exact rfl)|(apply OKx_guardF;exact rfl;exact rfl)|(apply OKx_guardU;exact rfl;exact rfl)|(apply OKx_extract;exact rfl;(conv=>lhs;whnf)<;>exact rfl)|(apply OKx_allocA;intro _)|(apply OKx_ldBA;exact rfl;(first | exact at0|exact at1|exact at2|exact at3|exact at4|exact at5|exact at6|exact at7);exact rfl)|(apply OKx_ldRA;(conv=>lhs;whnf)<;>exact rfl;(with_reducible assumption))|(apply OKx_ldBo;exact rfl;(first | exact at0|exact at1|exact at2|exact at3|exact at4|exact at5|exact at6|exact at7);omega)|(apply OKx_slit1;(conv=>lhs;whnf)<;>exact rfl;exact rfl;intro _)|(apply OKx_stBA; kernel_rfl;exact rfl;exact rfl;exact rfl;(first | exact at0|exact at1|exact at2|exact at3|exact at4|exact at5|exact at6|exact at7);exact rfl;exact rfl;exact rfl))
        refine bodyQ_r3 (by ((conv=>lhs;whnf)<;>exact rfl)) (by ((conv=>lhs;whnf)<;>exact rfl)) (by ((conv=>lhs;whnf)<;>exact rfl)) ?_
        exact ⟨_, Ent.nil, rfl, rfl⟩
    · have ha : elAny x = false := by cases hb : elAny x with
        | true => exact absurd (.inl hb) hc1
        | false => rfl
      have hc1' : cnt = 1 := Decidable.byContradiction fun hh => hc1 (.inr hh)
      have hone := hof ha hc1'
      rw [hone] at hsn
      dsimp only at hsn
      subst hc1'
      rw [ha] at hX0
      have hln : (UInt8.ofNat ln).toNat = ln := by rw [UInt8.toNat_ofNat']; exact Nat.mod_eq_of_lt hlb
      have hu8 := u8L_snoc o (UInt8.ofNat ln)
      rw [hln] at hu8
      repeat' (first|(apply OK_seq)|(apply thenQ_n)|(apply OK_region)|(apply OKx_gl; refine OKx_ldB (k := 0) (e := 51) (cs := elX p k) 0 rfl rfl hX0 ?_)|(apply OKx_gb; refine OKx_append1 2 0 rfl rfl rfl rfl rfl (by omega) (by omega) ?_; intro gr cr)|(apply OKx_nilK)|(apply OK_block)|(apply blockQ_n)|(apply blockQ_s)|(apply thenQ_e)|(apply blockQ_e;exact rfl)|(apply thenQ_r)|(apply blockQ_r)|(apply OK_condT;exact rfl)|(apply OK_condF;exact rfl)|(apply OK_skip)|(apply OK_exit)|(apply OK_ret)|(apply OKx_move;(conv=>lhs;whnf)<;>exact rfl)|(apply OKx_assign;(conv=>lhs;whnf)<;>exact rfl)|(apply OKx_ldB;exact rfl;(first | exact at0|exact at1|exact at2|exact at3|exact at4|exact at5|exact at6|exact at7);exact rfl)|(apply OKx_ldR;(conv=>lhs;whnf)<;>exact rfl;(with_reducible assumption))|(apply OKx_len;exact rfl)|(apply OKx_lenR;(conv=>lhs;whnf)<;>exact rfl;(with_reducible assumption))|(apply OKx_lenR2;(conv=>lhs;whnf)<;>exact rfl;(with_reducible assumption))|(apply OKx_lenO;(conv=>lhs;whnf)<;>exact rfl;(first | exact at0|exact at1|exact at2|exact at3|exact at4|exact at5|exact at6|exact at7))|(apply OKx_lss;exact rfl;exact rfl;all_goals (intro _; try (exfalso;omega)))|(apply OKx_neq;exact rfl;exact rfl;all_goals (intro _; try (exfalso;omega)))|(apply OKx_idxR2;(conv=>lhs;whnf)<;>exact rfl;(with_reducible assumption);exact rfl;omega;intro _ _)|(apply OKx_idxS;exact rfl;exact rfl;omega)|(apply OKx_fldO;exact rfl;exact rfl)|(apply OKx_fldR;(conv=>lhs;whnf)<;>exact rfl;(with_reducible assumption); decide;intro _ _)|(apply OKx_inc;exact rfl;exact rfl;omega)|(apply OKx_addN;exact rfl;exact rfl;omega)|(apply OKx_add;exact rfl;exact rfl;omega;omega)|(apply OKx_pickT;exact rfl;(conv=>lhs;whnf)<;>exact rfl)|(apply OKx_pickF;exact rfl;(conv=>lhs;whnf)<;>exact rfl)|(apply OKx_guardT;exact rfl;exact rfl)|(apply OKx_guardF;exact rfl;exact rfl)|(apply OKx_guardU;exact rfl;exact rfl)|(apply OKx_extract;exact rfl;(conv=>lhs;whnf)<;>exact rfl)|(apply OKx_allocA;intro _)|(apply OKx_ldBA;exact rfl;(first | exact at0|exact at1|exact at2|exact at3|exact at4|exact at5|exact at6|exact at7);exact rfl)|(apply OKx_ldRA;(conv=>lhs;whnf)<;>exact rfl;(with_reducible assumption))|(apply OKx_ldBo;exact rfl;(first | exact at0|exact at1|exact at2|exact at3|exact at4|exact at5|exact at6|exact at7);omega)|(apply OKx_slit1;(conv=>lhs;whnf)<;>exact rfl;exact rfl;intro _)|(apply OKx_stBA; kernel_rfl;exact rfl;exact rfl;exact rfl;(first | exact at0|exact at1|exact at2|exact at3|exact at4|exact at5|exact at6|exact at7);exact rfl;exact rfl;exact rfl))
      refine ⟨by (repeat' (first | refine agree_upd rfl ?_ | exact agree_over | exact agree_refl _ _ | refine agree_over2 rfl ?_)), mm - 1, _, by omega, Ent.pick [2, 3] rfl, ?_⟩
      exact ⟨k + 1, o ++ [UInt8.ofNat ln], by omega, hsn, by rw [List.length_append, hol] <;> rfl, rfl, by rw [hu8] <;> rfl⟩
  · obtain rfl : k = (prts p).length := by omega
    rw [List.take_length] at hlit
    rw [hlit]
    repeat' (first|(apply OK_seq)|(apply thenQ_n)|(apply OK_region)|(refine OKx_convBS (s := o) 0 rfl rfl Try.underlying53 Try.underlying5 Try.underlying9 ?_)|(apply OKx_nilK)|(apply OK_block)|(apply blockQ_n)|(apply blockQ_s)|(apply thenQ_e)|(apply blockQ_e;exact rfl)|(apply thenQ_r)|(apply blockQ_r)|(apply OK_condT;exact rfl)|(apply OK_condF;exact rfl)|(apply OK_skip)|(apply OK_exit)|(apply OK_ret)|(apply OKx_move;(conv=>lhs;whnf)<;>exact rfl)|(apply OKx_assign;(conv=>lhs;whnf)<;>exact rfl)|(apply OKx_ldB;exact rfl;(first | exact at0|exact at1|exact at2|exact at3|exact at4|exact at5|exact at6|exact at7);exact rfl)|(apply OKx_ldR;(conv=>lhs;whnf)<;>exact rfl;(with_reducible assumption))|(apply OKx_len;exact rfl)|(apply OKx_lenR;(conv=>lhs;whnf)<;>exact rfl;(with_reducible assumption))|(apply OKx_lenR2;(conv=>lhs;whnf)<;>exact rfl;(with_reducible assumption))|(apply OKx_lenO;(conv=>lhs;whnf)<;>exact rfl;(first | exact at0|exact at1|exact at2|exact at3|exact at4|exact at5|exact at6|exact at7))|(apply OKx_lss;exact rfl;exact rfl;all_goals (intro _; try (exfalso;omega)))|(apply OKx_neq;exact rfl;exact rfl;all_goals (intro _; try (exfalso;omega)))|(apply OKx_idxR2;(conv=>lhs;whnf)<;>exact rfl;(with_reducible assumption);exact rfl;omega;intro _ _)|(apply OKx_idxS;exact rfl;exact rfl;omega)|(apply OKx_fldO;exact rfl;exact rfl)|(apply OKx_fldR;(conv=>lhs;whnf)<;>exact rfl;(with_reducible assumption); decide;intro _ _)|(apply OKx_inc;exact rfl;exact rfl;omega)|(apply OKx_addN;exact rfl;exact rfl;omega)|(apply OKx_add;exact rfl;exact rfl;omega;omega)|(apply OKx_pickT;exact rfl;(conv=>lhs;whnf)<;>exact rfl)|(apply OKx_pickF;exact rfl;(conv=>lhs;whnf)<;>exact rfl)|(apply OKx_guardT;exact rfl;exact rfl)|(apply OKx_guardF;exact rfl;exact rfl)|(apply OKx_guardU;exact rfl;exact rfl)|(apply OKx_extract;exact rfl;(conv=>lhs;whnf)<;>exact rfl)|(apply OKx_allocA;intro _)|(apply OKx_ldBA;exact rfl;(first | exact at0|exact at1|exact at2|exact at3|exact at4|exact at5|exact at6|exact at7);exact rfl)|(apply OKx_ldRA;(conv=>lhs;whnf)<;>exact rfl;(with_reducible assumption))|(apply OKx_ldBo;exact rfl;(first | exact at0|exact at1|exact at2|exact at3|exact at4|exact at5|exact at6|exact at7);omega)|(apply OKx_slit1;(conv=>lhs;whnf)<;>exact rfl;exact rfl;intro _)|(apply OKx_stBA; kernel_rfl;exact rfl;exact rfl;exact rfl;(first | exact at0|exact at1|exact at2|exact at3|exact at4|exact at5|exact at6|exact at7);exact rfl;exact rfl;exact rfl))
    refine bodyQ_r3 (by ((conv=>lhs;whnf)<;>exact rfl)) (by ((conv=>lhs;whnf)<;>exact rfl)) (by ((conv=>lhs;whnf)<;>exact rfl)) ?_
    exact ⟨_, Ent.nil, rfl, rfl⟩
end Go.Proofs.Ytbooccpfdekaiaa
namespace Go.Proofs.Ytbooccpfdekaiaa
open Go.RowKit Go.Maps
def MxL (w : World) : Prop := ∃ m, w.cell? ⟨0, 0, none⟩ = some (.int .i64 m)
theorem MxL.below {w w' : World} (h : MxL w) (hb : Below w.heap.size w w') : MxL w' := by
  obtain ⟨m, hm⟩ := h
  refine ⟨m, ?_⟩
  rw [← hm]
  have hlt : 0 < w.heap.size := by
    unfold World.cell? at hm
    cases h : w.heap[0]? with
    | none => simp [h] at hm
    | some o => exact (Array.getElem?_eq_some_iff.1 h).1
  unfold World.cell?
  rw [hb.block _ hlt]
end Go.Proofs.Ytbooccpfdekaiaa
namespace Go.Proofs.Ytbooccpfdekaiaa
open Go.RowKit
def ren166 : Go.Shelf.Ren := ⟨fun | 166 => 42 | 240 => 56 | 276 => 64 | n => n,
  fun | 0 => 0 | 3 => 3 | 4 => 4 | 5 => 5 | 9 => 9 | 20 => 20 | 37 => 53 | 70 => 58 | 72 => 60 | 75 => 62 | 80 => 65 | 164 => 90 | n => n, fun | n => n⟩
theorem lays166 : Go.Proofs.Lays.n166 Try.prog ren166 := {
  mixed := by kernel_rfl
  f166 := Try.func42.trans (congrArg some (by kernel_rfl))
  f240 := Try.func56.trans (congrArg some (by kernel_rfl))
  f276 := Try.func64.trans (congrArg some (by kernel_rfl))
  t0 := Try.underlying0
  a0 := Try.isAgg0
  z0 := Try.sizeOf0
  v0 := Try.zeroValue0
  t3 := Try.underlying3
  a3 := Try.isAgg3
  z3 := Try.sizeOf3
  v3 := Try.zeroValue3
  t4 := Try.underlying4
  a4 := Try.isAgg4
  z4 := Try.sizeOf4
  v4 := Try.zeroValue4
  t9 := Try.underlying9
  a9 := Try.isAgg9
  z9 := Try.sizeOf9
  v9 := Try.zeroValue9
  t20 := Try.underlying20
  a20 := Try.isAgg20
  z20 := Try.sizeOf20
  v20 := Try.zeroValue20
  t37 := Try.underlying53
  a37 := Try.isAgg53
  z37 := Try.sizeOf53
  v37 := Try.zeroValue53
  t70 := Try.underlying58
  a70 := Try.isAgg58
  z70 := Try.sizeOf58
  v70 := Try.zeroValue58
  t72 := Try.underlying60
  a72 := Try.isAgg60
  z72 := Try.sizeOf60
  v72 := Try.zeroValue60
  t75 := Try.underlying62
  a75 := Try.isAgg62
  z75 := Try.sizeOf62
  v75 := Try.zeroValue62
  t164 := Try.underlying90
  a164 := Try.isAgg90
  z164 := Try.sizeOf90
  v164 := Try.zeroValue90 }
theorem extra166 : Builder.Extra Try.prog ren166 := {
  sizeBuilder := by kernel_rfl
  liesBuilder := by kernel_rfl
  t5 := Try.underlying5
  a5 := Try.isAgg5
  z5 := Try.sizeOf5
  v5 := Try.zeroValue5
  infoByte := by kernel_rfl
  cellsByte := by kernel_rfl
  sizeByte := by kernel_rfl
  neB5 := by decide }
def bldL (b : Nat) (p v : Value) (l : List UInt8) : List Res := [.box 60 b [p, v], .row 5 1 v l.length (Lib.byteCells l)]
def bldP (b : Nat) (p : Value) : Prop := p = .pointer none ∨ p = .pointer (some ⟨b, 0, none⟩)
theorem byteCells_len (l : List UInt8) : (Lib.byteCells l).length = l.length := by simp [Lib.byteCells]
theorem bldL_is {w0 w : World} {b : Nat} {p v : Value} {l : List UInt8} {K : List Res} (hp : bldP b p) (h : Hp w0.heap.size w0 w (bldL b p v l ++ K)) : Lib.IsBuilder 60 5 w0.heap.size b (Lib.byteCells l) w := by
  have hb : w0.heap.size ≤ b ∧ w.heap[b]? = some (.cells [p, v].toArray 60 (0, 0)) := h.ok _ List.mem_cons_self
  have hr : w.ownsRow w0.heap.size 5 1 v l.length (Lib.byteCells l) := h.ok _ (List.mem_cons_of_mem _ List.mem_cons_self)
  have hd : (some b : Option Nat) = none ∨ some b ≠ v.ownBlock := (List.pairwise_cons.1 h.dj).1 _ List.mem_cons_self
  have hne : v.ownBlock ≠ some b := by
    rcases hd with hd | hd
    · cases hd
    · exact fun e => hd e.symm
  rcases hp with rfl | rfl
  · exact .inl ⟨hb.1, v, hb.2, by rw [byteCells_len]; exact hr, hne⟩
  · exact .inr ⟨hb.1, v, hb.2, by rw [byteCells_len]; exact hr, hne⟩
set_option maxRecDepth 100000 in
set_option maxHeartbeats 4000000 in
theorem copyCheck_sat (b : Nat) (p v : Value) (w0 : World) (K : List Res) (hp : bldP b p) :
    SatL Try.prog 56 [.pointer (some ⟨b, 0, none⟩)] w0 (.box 60 b [p, v] :: K) (fun u L => u = .tuple #[] ∧ L = .box 60 b [.pointer (some ⟨b, 0, none⟩), v] :: K) :=
  ⟨⟨_, _, Try.func56, by kernel_rfl, rfl⟩, fun w h => by
    have hb : w0.heap.size ≤ b ∧ w.heap[b]? = some (.cells [p, v].toArray 60 (0, 0)) := h.ok _ List.mem_cons_self
    have hc0 : w.cell? ⟨b, 0, none⟩ = some p := by simp [World.cell?, hb.2]
    rcases hp with rfl | rfl
    · have hc : Calls Try.prog 56 #[.pointer (some ⟨b, 0, none⟩)] w fun e w' => e = .returned (.tuple #[]) ∧ w' = w.setCell ⟨b, 0, none⟩ (.pointer (some ⟨b, 0, none⟩)) :=
        Any.Builder_copyCheck_fresh { lays166 with } { extra166 with } b w hc0 (by simp [World.shape?, hb.2]; rfl) (by simp [World.frozen?, hb.2])
      refine hc.mono ?_
      rintro e w' ⟨rfl, rfl⟩
      exact ⟨_, _, rfl, h.setBox (i := 0) rfl 0 _, rfl, rfl⟩
    · have hc : Calls Try.prog 56 #[.pointer (some ⟨b, 0, none⟩)] w fun e w' => e = .returned (.tuple #[]) ∧ w' = w :=
        Any.Builder_copyCheck_used { lays166 with } { extra166 with } b w hc0
      refine hc.mono ?_
      rintro e w' ⟨rfl, rfl⟩
      exact ⟨_, _, rfl, h, rfl, rfl⟩⟩
section
variable {n : Nat} {w0 : World} {K : Fm → List Res → Prop} {F : Fm} {L : List Res} {Lw : List Res} {ops : Array Oper} {rest : List Oper} {d : Option Nat} {ty : TypeId} {pos : String} {aft : Array Edge}
theorem blk_new {g k : Nat} {N c : Nat} {v' : Value} (e : v' = .slice (some ⟨g, 0, none⟩) N c) (hk : v'.ownBlock = some k) : k = g := by
  subst e
  simp only [Value.ownBlock, Option.some.injEq] at hk
  exact hk.symm
theorem OKx_appStr {s x : Operand} [hE : Keeps w0 L Lw] (i : Nat) {v : Value} {N : Nat} {xs : List Value} {sb : ByteArray} (hs : rv n F s = v) (hx : rv n F x = .string sb) (hi : L[i]? = some (.row 5 1 v N xs)) (hN : N + sb.size ≤ 140737488355328)
    (kk : ∀ a c, OKx Try.prog n w0 (.seq Lw) ops K rest (updo F d (.slice a (N + sb.size) c)) (L.set i (.row 5 1 (.slice a (N + sb.size) c) (N + sb.size) (xs ++ Lib.strCells sb)))) :
    OKx Try.prog n w0 (.seq Lw) ops K (⟨d, .call { callee := .builtin .append, args := #[s, x], argTypes := #[53, 9] }, ty, pos, aft, none⟩ :: rest) F L := by
  refine OKx_actW hE.ent fun w a hfr hp => wp_of_list (ops := ops) rfl ?_
  have hown : w.ownsRow w0.heap.size 5 1 v N xs := hp.ok _ (List.mem_of_getElem? hi)
  have hown0 := hown
  obtain ⟨ti, hti, hz0, hz1, hz2⟩ := info_parts extra166.infoByte
  have hti : Try.prog.info? 5 = some ti := hti
  obtain ⟨v', w', hr, h2, h3, h4⟩ := Lib.run_append_own_string (P := Try.prog) w w0.heap.size 53 9 ty 5 ti Try.underlying53 Try.underlying9 hti hz0 hz1 hz2 v N xs hown sb (by unfold maxLen;omega) hN hp.base
  have hblk : ∀ k, v'.ownBlock = some k → v.ownBlock = some k ∨ w.heap.size ≤ k := by
    intro k hk
    have hxl : xs.length = N := by simpa using hown0.1
    rcases hown0.2 with ⟨rfl, rfl⟩ | ⟨g, cap, cur, rfl, hbg, hg, hnc, hcm, hcs, htake⟩
    · by_cases hm : sb.size = 0
      · rw [h4.2 ⟨rfl, hm⟩] at hk
        cases hk
      · have hr2 := run_append_nil_string (P := Try.prog) w 53 9 ty 5 ti (.int .u8 0) Try.underlying53 Try.underlying9 hti hz0 sb (by omega) (by omega) (by rw [hz2];omega)
        rw [hr] at hr2
        simp only [Result.ok.injEq] at hr2
        exact .inr (by rw [blk_new hr2.1 hk]; exact Nat.le_refl _)
    · by_cases hroom : N + sb.size ≤ cap
      · have hcs' : cur.size = cap := by simpa using hcs
        have hr2 := Lib.run_append_room_string (P := Try.prog) w 53 9 ty 5 ti Try.underlying53 Try.underlying9 hti hz1 g N cap cur hg sb hroom (by omega)
        rw [hr] at hr2
        simp only [Result.ok.injEq] at hr2
        exact .inl (by rw [blk_new hr2.1 hk]; rfl)
      · have holds : ∀ j u, xs[j]? = some u → w.cell? ((⟨g, 0, none⟩ : Addr).add j) = some u := hown.cells (g := g) rfl
        have hr2 := Lib.run_append_grow_string (P := Try.prog) w 53 9 ty 5 ti (.int .u8 0) Try.underlying53 Try.underlying9 hti hz0 ⟨g, 0, none⟩ N cap xs (by rw [hz1]; simpa using hxl) holds sb (by omega) (by omega) (by rw [hz2]; exact growslice_fits (by omega) (by omega))
        rw [hr] at hr2
        simp only [Result.ok.injEq] at hr2
        exact .inr (by rw [blk_new hr2.1 hk]; exact Nat.le_refl _)
  obtain ⟨a2, c2, rfl⟩ : ∃ a2 c2, v' = .slice a2 (N + sb.size) c2 := by
    rcases h2.2 with ⟨rfl, h0⟩ | ⟨g, cap, cur, rfl, _⟩
    · exact ⟨none, 0, by rw [h0]⟩
    · exact ⟨_, _, rfl⟩
  refine wpList_plain rfl fun K' hK' => ?_
  unfold Oper.wp execOp
  simp only [resolve, invoke, builtin, Sem.run_bind, Sem.run_pure, Result.andThen_ok, List.map_toArray, List.map_cons, List.map_nil, hfr.eval, hs, hx, hr]
  exact hK' _ _ ⟨rfl, (kk a2 c2).use w' _ (hfr.put d _) (hp.turn hi h3 (r' := .row 5 1 (.slice a2 (N + sb.size) c2) (N + sb.size) (xs ++ Lib.strCells sb)) h2 hblk)⟩
end
theorem bytes_app (l : List UInt8) (s : ByteArray) : Lib.byteCells l ++ Lib.strCells s = Lib.byteCells (l ++ s.data.toList) := by
  have e : Lib.strCells s = Lib.byteCells s.data.toList := rfl
  rw [e]
  simp [Lib.byteCells]
set_option maxRecDepth 100000 in
set_option maxHeartbeats 4000000 in
theorem bldW_sat (b : Nat) (p v : Value) (l : List UInt8) (s : ByteArray) (w0 : World) (K : List Res) (hp : bldP b p) (hl : l.length + s.size ≤ 140737488355328) :
    SatL Try.prog 42 [.pointer (some ⟨b, 0, none⟩), .string s] w0 (bldL b p v l ++ K) (fun u L => u = .tuple #[.int .i64 s.size, .nilIface] ∧ ∃ v', L = bldL b (.pointer (some ⟨b, 0, none⟩)) v' (l ++ s.data.toList) ++ K) := by
  unfold bldL
  rw [List.cons_append, List.cons_append, List.nil_append]
  refine SatL.of 19 [4, 5] Try.func42 (by kernel_rfl) (by kernel_rfl) rfl rfl rfl rfl ?_
  repeat' (first|(apply OK_seq)|(apply thenQ_n)|(apply OK_region)|(apply OKx_gc 56;exact rfl; refine OKx_callL (f := 56) rfl rfl (copyCheck_sat b p v _ _ hp) ?_; rintro _ _ ⟨rfl, rfl⟩)|(apply OKx_gb; refine OKx_appStr 1 rfl rfl rfl (by omega) ?_; intro a2 c2)|(apply OKx_nilK)|(apply OK_block)|(apply blockQ_n)|(apply blockQ_s)|(apply thenQ_e)|(apply blockQ_e;exact rfl)|(apply thenQ_r)|(apply blockQ_r)|(apply OK_condT;exact rfl)|(apply OK_condF;exact rfl)|(apply OK_skip)|(apply OK_exit)|(apply OK_ret)|(apply OKx_move;(conv=>lhs;whnf)<;>exact rfl)|(apply OKx_assign;(conv=>lhs;whnf)<;>exact rfl)|(apply OKx_ldB;exact rfl;(first | exact at0|exact at1|exact at2|exact at3|exact at4|exact at5|exact at6|exact at7);exact rfl)|(apply OKx_ldR;(conv=>lhs;whnf)<;>exact rfl;(with_reducible assumption))|(apply OKx_lenS;exact rfl)|(apply OKx_fldO;exact rfl;exact rfl)|(apply OKx_fldR;(conv=>lhs;whnf)<;>exact rfl;(with_reducible assumption); decide;intro _ _)|(apply OKx_stB;exact rfl;(conv=>lhs;whnf)<;>exact rfl;exact rfl;exact rfl;(first | exact at0|exact at1|exact at2|exact at3|exact at4|exact at5|exact at6|exact at7);exact rfl;exact rfl;exact rfl)|(apply OKx_nilCheck;exact rfl))
  refine bodyQ_r2 (by ((conv=>lhs;whnf)<;>exact rfl)) (by ((conv=>lhs;whnf)<;>exact rfl)) ?_
  refine ⟨_, Ent.refl _ _, rfl, .slice a2 (l.length + s.size) c2, ?_⟩
  rw [bytes_app]
  have e : (l ++ s.data.toList).length = l.length + s.size := by rw [List.length_append]; rfl
  rw [e]
  rfl
set_option maxRecDepth 100000 in
set_option maxHeartbeats 4000000 in
theorem bldStr_sat (b : Nat) (p v : Value) (l : List UInt8) (w0 : World) (K : List Res) (hp : bldP b p) :
    SatL Try.prog 43 [.pointer (some ⟨b, 0, none⟩)] w0 (bldL b p v l ++ K) (fun u L => u = .string (bOf l) ∧ L = []) :=
  ⟨⟨_, _, Try.func43, by kernel_rfl, rfl⟩, fun w h => by
    refine (Try.Builder_String_any w0.heap.size b l w (bldL_is hp h) h.base).mono ?_
    rintro e w' ⟨rfl, hb⟩
    exact ⟨_, [], rfl, ⟨h.below.trans hb, Nat.le_trans h.base hb.size, fun r hr => absurd hr List.not_mem_nil, List.Pairwise.nil⟩, rfl, rfl⟩⟩
end Go.Proofs.Ytbooccpfdekaiaa
