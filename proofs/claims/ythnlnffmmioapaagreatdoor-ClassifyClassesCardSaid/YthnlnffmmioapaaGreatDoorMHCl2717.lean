/-
  Part 17 of the proof: Is27. No statement of the seat is proved here.
-/
import Derived.Test.YthnlnffmmioapaaGreatDoorMHCl2716
import Derived.Sort.OwnSorted
namespace Go.Proofs.YthnlnffmmioapaaGreatDoor
open Go.RowKit
theorem takeAtS (xs : List ByteArray) (k : Nat) (h : k < xs.length) : xs.take (k + 1) = xs.take k ++ [xs.getD k ByteArray.empty] := by
  rw [getD_lt _ _ _ h]
  exact List.take_succ_eq_append_getElem h
def AOk (a : Option Addr) (c n : Nat) : Prop := (n = 0 ∧ a = none ∧ c = 0) ∨ (0 < n ∧ ∃ g, a = some ⟨g, 0, none⟩)
def srtB (xs : List ByteArray) : List (List UInt8) := (xs.map fun x => x.data.toList).mergeSort fun x y => decide (x ≤ y)
theorem strs_snoc (xs : List ByteArray) (x : ByteArray) : strs xs ++ [Value.string x] = strs (xs ++ [x]) := by simp [strs]
def srtS (xs : List ByteArray) : List ByteArray := (srtB xs).map bOf
theorem srtS_len (xs : List ByteArray) : (srtS xs).length = xs.length := by unfold srtS srtB; rw [List.length_map, List.length_mergeSort, List.length_map]
theorem encStr_map (xs : List ByteArray) : (xs.map fun x => x.data.toList).map encStr = strs xs := by
  rw [List.map_map]; rfl
theorem encStr_bOf (l : List (List UInt8)) : l.map encStr = strs (l.map bOf) := by
  unfold strs
  rw [List.map_map]; rfl
set_option maxRecDepth 100000 in
set_option maxHeartbeats 4000000 in
theorem sort_str_sat (g cap n : Nat) (xs : List ByteArray) (w0 : World) (L : List Res) (i : Nat) (hxn : xs.length = n) (hi : L[i]? = some (.row 9 1 (.slice (some ⟨g, 0, none⟩) n cap) n (strs xs))) (hx : n ≤ 1000000) :
    SatL Tryz.prog 178 [.slice (some ⟨g, 0, none⟩) n cap] w0 L (fun u L' => u = .tuple #[] ∧ L' = L.set i (.row 9 1 (.slice (some ⟨g, 0, none⟩) n cap) n (strs (srtS xs)))) := by
  subst hxn
  refine ⟨⟨_, _, Tryz.func178, by kernel_rfl, rfl⟩, fun w hp => ?_⟩
  have ho : w.ownsRow w0.heap.size 9 1 (.slice (some ⟨g, 0, none⟩) xs.length cap) xs.length (strs xs) := hp.ok _ (List.mem_of_getElem? hi)
  have hlt := (ho.lt g rfl).2
  rcases ho.2 with ⟨h0, _⟩ | ⟨g', cap', cur, hv, hg, hb, hn, hcap, hsz, htake⟩
  · cases h0
  cases hv
  rw [Nat.mul_one] at htake
  have hln : (xs.map fun x => x.data.toList).length = xs.length := List.length_map _
  have hsl : (srtB xs).length = (xs.map fun x => x.data.toList).length := List.length_mergeSort _
  have hc := Tryz.slices_Sort_string g 0 cap (xs.map fun x => x.data.toList) w (Go.holds_of_block hb (by rw [encStr_map, hln]; exact htake)) hlt (by rw [hln];omega)
  rw [hln] at hc
  refine hc.mono ?_
  rintro e w' ⟨rfl, n, os, rfl⟩
  refine ⟨_, _, rfl, hp.turn hi (r' := .row 9 1 (.slice (some ⟨g, 0, none⟩) xs.length cap) xs.length (strs (srtS xs))) (Go.grownBy_sorted _) ?_ (fun k hk => .inl hk), rfl, rfl⟩
  have := Go.ownsRow_sorted (w := w) (n := n) (os := os) (ts := srtB xs) hsl hg hb (by rw [hln]; exact hn) hcap hsz
  rw [hln, encStr_bOf] at this
  exact this
set_option maxRecDepth 100000 in
set_option maxHeartbeats 4000000 in
theorem sortS_nil_sat (w : World) : SatV Tryz.prog 178 [.slice none 0 0] w (.tuple #[]) :=
  Sat.lib ⟨_, _, Tryz.func178, by kernel_rfl, rfl⟩ fun w1 _ => (Tryz.slices_Sort_string_none none 0 w1).mono fun e w' ⟨h1, h2⟩ => ⟨_, [], h1, h2 ▸ Hp.refl _, rfl, rfl⟩
def IterS (w0 : World) (f : FuncId) (caps : List Value) (Z : List Res) (xs : List ByteArray) : Prop :=
  ∀ (y : Nat) (Br : List Res) (JP : List ByteArray → List Res → Prop),
    (∀ pre x J, JP pre J → (pre ++ [x]) <+: xs → SatY Tryz.prog y [.string x] w0 ((J ++ Z) ++ Br) (fun u L => u = .bool true ∧ ∃ J', JP (pre ++ [x]) J' ∧ L = (J' ++ Z) ++ Br)) →
    ∀ J, JP [] J → SatL Tryz.prog f (.func (.yield y) #[] #[] :: caps) w0 (Z ++ (J ++ Br)) (fun _ L => ∃ J', JP xs J' ∧ L = Z ++ (J' ++ Br))
set_option maxRecDepth 100000 in
set_option maxHeartbeats 4000000 in
theorem valuesS_sat (a : Option Addr) (n c : Nat) (w : World) : Sat Tryz.prog 165 [.slice a n c] w (fun u L => ∃ g, u = .func (.func 179) #[] #[.pointer (some ⟨g, 0, none⟩)] ∧ L = [.box 25 g [.slice a n c]]) := by
  refine SatL.of 4 [2] Tryz.func165 (by kernel_rfl) (by kernel_rfl) rfl rfl rfl rfl ?_
  repeat' (first|(apply OK_seq)|(apply thenQ_n)|(apply OK_region)|(apply OKx_nilK)|(apply OK_ret)|(apply OKx_assign;(conv=>lhs;whnf)<;>exact rfl)|(apply OKx_box1;(conv=>lhs;whnf)<;>exact rfl;exact rfl;intro _)|(apply OKx_func;exact rfl;exact rfl))
  rename_i g
  refine bodyQ_r1 (by ((conv=>lhs;whnf)<;>exact rfl)) ?_
  exact ⟨_, Ent.refl _ _, g, rfl, rfl⟩
set_option maxRecDepth 100000 in
set_option maxHeartbeats 2000000 in
theorem valuesS1 {w0 : World} {g : Nat} {sv : Value} {xs : List ByteArray} {X : List Res} (h : Strs w0 sv xs) : IterS w0 179 [.pointer (some ⟨g, 0, none⟩)] (.box 25 g [sv] :: X) xs := by
  intro y Br JP hy J hJ
  have hsl := h.sl
  have hb := hsl.bound
  generalize hR : (fun (_ : Value) (L : List Res) => ∃ J', JP xs J' ∧ L = (Res.box 25 g [sv] :: X) ++ (J' ++ Br)) = R
  simp only [List.cons_append, List.nil_append]
  refine SatL.of 16 [] Tryz.func179 (by kernel_rfl) (by kernel_rfl) rfl rfl rfl rfl ?_
  repeat' (first|(apply OK_seq)|(apply thenQ_n)|(apply OK_region)|(apply OKx_nilK)|(apply OK_block)|(apply OKx_move;(conv=>lhs;whnf)<;>exact rfl)|(apply OKx_ldB;exact rfl; (apply atP;constructor);exact rfl)|(apply OKx_lenR;(conv=>lhs;whnf)<;>exact rfl;(with_reducible assumption)))
  refine OK_loop1 7 [4, 7, 8, 9, 10, 11, 12, 13, 14, 15] (fun m v L => ∃ (k : Nat) (J' : List Res), k + m = xs.length ∧ v = .int .i64 (k : Int) ∧ JP (xs.take k) J' ∧ L = .box 25 g [sv] :: (X ++ (J' ++ Br))) xs.length _ (Ent.refl _ _) ⟨0, J, by omega, rfl, hJ, rfl⟩ ?_
  rintro m v L G ⟨k, J', hm, rfl, hJ', rfl⟩
  by_cases hk : k < xs.length
  · have htk := takeAtS xs k hk
    have hyy := hy _ (xs.getD k ByteArray.empty) J' hJ' (by rw [← htk]; exact take_pre xs (k + 1))
    repeat' (first|(refine OK_regionY (id := 3) 0 [_, _] [_] rfl rfl ?_)|(apply OK_seq)|(apply thenQ_n)|(apply OK_region)|(apply OKx_nilK)|(apply OK_block)|(apply OK_condT;exact rfl)|(apply OK_skip)|(apply OKx_move;(conv=>lhs;whnf)<;>exact rfl)|(apply OKx_assign;(conv=>lhs;whnf)<;>exact rfl)|(apply OKx_ldR;(conv=>lhs;whnf)<;>exact rfl;(with_reducible assumption))|(apply OKx_lss;exact rfl;exact rfl;all_goals (intro _; try (exfalso;omega)))|(apply OKx_idxR;(conv=>lhs;whnf)<;>exact rfl;(with_reducible assumption);exact rfl;omega;intro _ _))
    refine ⟨y, [_], _, (by ((conv=>lhs;whnf)<;>exact rfl)), (by ((conv=>lhs;whnf)<;>exact rfl)), fun w hp => hyy w ((swapF J' (Res.box 25 g [sv] :: X) Br).use w hp), ?_⟩
    rintro _ _ ⟨rfl, J2, hJ2, rfl⟩
    refine OKx_ent (swapE J2 (Res.box 25 g [sv] :: X) Br) ?_
    simp only [List.cons_append, List.nil_append]
    repeat' (first|(apply thenQ_n)|(apply OK_region)|(apply OKx_nilK)|(apply blockQ_n)|(apply OK_condF;exact rfl)|(apply OK_skip)|(apply OKx_move;(conv=>lhs;whnf)<;>exact rfl)|(apply OKx_inc;exact rfl;exact rfl;omega)|(apply OKx_notT;exact rfl))
    refine ⟨by (repeat' (first | refine agree_upd rfl ?_ | exact agree_over | exact agree_refl _ _ | refine agree_over2 rfl ?_)), m - 1, _, by omega, Ent.refl _ _, ?_⟩
    exact ⟨k + 1, J2, by omega, rfl, by rw [htk]; exact hJ2, rfl⟩
  · obtain rfl : k = xs.length := by omega
    repeat' (first|(apply OK_seq)|(apply thenQ_n)|(apply OK_region)|(apply OKx_nilK)|(apply blockQ_s)|(apply thenQ_e)|(apply OK_condF;exact rfl)|(apply OK_exit)|(apply OKx_lss;exact rfl;exact rfl;all_goals (intro _; try (exfalso;omega))))
    first | refine bodyQ_r0 ?_ | refine bodyQ_n0 ?_
    subst hR
    exact ⟨_, Ent.refl _ _, J', by rw [List.take_length] at hJ'; exact hJ', rfl⟩
structure CgS where
  (x : ByteArray)
  (pre : List ByteArray)
  (J : List Res)
def ColS (Z : List Res) (xs : List ByteArray) (u : Value) (L : List Res) : Prop := ∃ a c, AOk a c xs.length ∧ u = .slice a xs.length c ∧ L = .row 9 1 (.slice a xs.length c) xs.length (strs xs) :: Z
set_option maxRecDepth 100000 in
set_option maxHeartbeats 4000000 in
theorem appSeqS_sat (f : FuncId) (caps : List Value) (Z : List Res) (xs : List ByteArray) (w0 : World) (he : Enters' Tryz.prog f) (hI : IterS w0 f caps Z xs) (hl : xs.length ≤ 1000000) :
    SatL Tryz.prog 186 [.slice none 0 0, .func (.func f) #[] caps.toArray] w0 Z (ColS Z xs) := by
  refine SatL.ofM 13 [.tmp 4] Tryz.func186 (by kernel_rfl) (by kernel_rfl) rfl rfl rfl ?_
  repeat' (first|(apply OK_seq)|(apply thenQ_n)|(apply OK_region)|(apply OKx_nilK)|(apply OK_block)|(apply OKx_move;(conv=>lhs;whnf)<;>exact rfl)|(apply OKx_assign;(conv=>lhs;whnf)<;>exact rfl)|(apply OKx_box1;(conv=>lhs;whnf)<;>exact rfl;exact rfl;intro _))
  rename_i g2
  refine OK_ent (L' := Z ++ [.row 9 1 (.slice none 0 0) 0 (strs []), .box 25 g2 [.slice none 0 0]]) ((Ent.mk fun w1 hp => hp.nil 9 1).trans (Ent.rot2 _ _ Z)) ?_
  obtain ⟨JP, hJP⟩ : ∃ JP : List ByteArray → List Res → Prop, ∀ pre J, JP pre J ↔ (pre <+: xs ∧ ∃ a c, AOk a c pre.length ∧ J = [.row 9 1 (.slice a pre.length c) pre.length (strs pre), .box 25 g2 [.slice a pre.length c]]) := ⟨_, fun _ _ => Iff.rfl⟩
  refine OK_rangeFunc (σ := CgS) (fun x => x.J ++ Z) (ps := [7]) (gf := f) (lb := caps) (by ((conv=>lhs;whnf)<;>exact rfl)) he
    (fun x av => av = [.string x.x] ∧ JP x.pre x.J ∧ (x.pre ++ [x.x]) <+: xs)
    (fun x _ X' => ∃ J', JP (x.pre ++ [x.x]) J' ∧ X' = J' ++ Z)
    (fun _ _ _ _ => False) (fun X' => ∃ J', JP xs J' ∧ X' = J' ++ Z) (fun _ _ => False) ?_ ?_ ?_ ?_ ?_
  · rintro x av ⟨rfl, _⟩
    rfl
  · intro y Br Bd hYy
    rw [List.append_assoc]
    refine (hI y Br JP ?_ _ ((hJP _ _).2 ⟨List.nil_prefix, none, 0, .inl ⟨rfl, rfl, rfl⟩, rfl⟩)).monoE ?_
    · intro pre x J hJ hp
      refine (hYy ⟨x, pre, J⟩ [.string x] ⟨rfl, hJ, hp⟩).mono2 ?_
      rintro u L' (⟨rfl, X', ⟨J', hJ', rfl⟩, rfl⟩ | ⟨_, _, _, hF, _⟩)
      · exact ⟨rfl, J', hJ', rfl⟩
      · exact hF.elim
    · rintro u L' ⟨J', hJ', rfl⟩
      exact ⟨_, swapF J' Z Br, .inl ⟨J' ++ Z, ⟨J', hJ', rfl⟩, rfl⟩⟩
  · rintro ro B B' ⟨x, pre, J⟩ av ⟨rfl, hJ, hpre⟩
    dsimp only at *
    obtain ⟨hpr, a, c, ha, rfl⟩ := (hJP _ _).1 hJ
    have hpl : pre.length < xs.length := by
      have := hpre.length_le
      simp at this
      omega
    simp only [List.cons_append, List.nil_append]
    repeat' (first|(apply OKr_region;exact rfl)|(apply OKx_nilK)|(apply OKx_assign;(conv=>lhs;whnf)<;>exact rfl))
    refine ⟨.row 9 1 (.slice a pre.length c) pre.length (strs pre) :: .box 25 g2 [.slice a pre.length c] :: Z, Ent.refl _ _, ?_⟩
    simp only [List.cons_append, List.nil_append]
    repeat' (first|(apply OKr_region;exact rfl)|(apply OKx_gb; refine OKx_append1 (y := .string x) 1 0 rfl rfl rfl rfl rfl (by omega) (by omega) ?_; intro gA cA; rw [strs_snoc])|(apply OKx_nilK)|(apply OKr_block)|(apply blockQ_n)|(apply OKx_move;(conv=>lhs;whnf)<;>exact rfl)|(apply OKx_ldB;exact rfl; (apply atP;constructor);exact rfl)|(apply OKx_stB;exact rfl;(conv=>lhs;whnf)<;>exact rfl;exact rfl;exact rfl; (apply atP;constructor);exact rfl;exact rfl;exact rfl)|(apply OKx_slit1;(conv=>lhs;whnf)<;>exact rfl;exact rfl;intro _))
    refine ⟨.row 9 1 (.slice (some ⟨gA, 0, none⟩) (pre.length + 1) cA) (pre.length + 1) (strs (pre ++ [x])) :: .box 25 g2 [.slice (some ⟨gA, 0, none⟩) (pre.length + 1) cA] :: Z, Ent.sub (List.sublist_cons_self _ _), [_, _], (hJP _ _).2 ⟨hpre, some ⟨gA, 0, none⟩, cA, .inr ⟨by simp, gA, rfl⟩, ?_⟩, rfl⟩
    rw [List.length_append]
    rfl
  · rintro D X' ⟨J', hJ', rfl⟩
    obtain ⟨_, a, c, ha, rfl⟩ := (hJP _ _).1 hJ'
    simp only [List.cons_append, List.nil_append]
    repeat' (first|(apply OK_seq)|(apply thenQ_n)|(apply OK_region)|(apply OKx_nilK)|(apply blockQ_n)|(apply OK_ret)|(apply OKx_assign;(conv=>lhs;whnf)<;>exact rfl)|(apply OKx_ldB;exact rfl; (apply atP;constructor);exact rfl))
    exact bodyM_e1 D (by first | exact .inl rfl | exact .inr rfl) (resIs_tmp (by ((conv=>lhs;whnf)<;>exact rfl))) ⟨_, (Ent.sub (by exact (List.Sublist.refl (_ :: Z)).trans (List.Sublist.cons_cons _ (List.sublist_cons_self _ _)))), a, c, ha, rfl, rfl⟩ (by simp only [upN1, upN2, marks_push]; rfl)
  · rintro D c X' h
    exact h.elim
set_option maxRecDepth 100000 in
set_option maxHeartbeats 4000000 in
theorem collectS_sat (f : FuncId) (caps : List Value) (Z : List Res) (xs : List ByteArray) (w0 : World) (he : Enters' Tryz.prog f) (hI : IterS w0 f caps Z xs) (hl : xs.length ≤ 1000000) :
    SatL Tryz.prog 177 [.func (.func f) #[] caps.toArray] w0 Z (ColS Z xs) := by
  have hA := appSeqS_sat f caps Z xs w0 he hI hl
  refine SatL.of 5 [2] Tryz.func177 (by kernel_rfl) (by kernel_rfl) rfl rfl rfl rfl ?_
  repeat' (first|(apply OK_seq)|(apply thenQ_n)|(apply OK_region)|(apply OKx_gc 186;exact rfl; refine OKx_callL (f := 186) rfl rfl hA ?_; rintro _ _ ⟨a, c, ha, rfl, rfl⟩)|(apply OKx_nilK)|(apply OK_ret)|(apply OKx_move;(conv=>lhs;whnf)<;>exact rfl)|(apply OKx_assign;(conv=>lhs;whnf)<;>exact rfl))
  refine bodyQ_r1 (by ((conv=>lhs;whnf)<;>exact rfl)) ?_
  exact ⟨_, Ent.refl _ _, a, c, ha, rfl, rfl⟩
def SrdS (xs : List ByteArray) (Z : List Res) (u : Value) (L : List Res) : Prop := ∃ a c, AOk a c xs.length ∧ u = .slice a xs.length c ∧ L = .row 9 1 (.slice a xs.length c) xs.length (strs (srtS xs)) :: Z
set_option maxRecDepth 100000 in
set_option maxHeartbeats 4000000 in
theorem sortedS_it_sat (f : FuncId) (caps : List Value) (Z : List Res) (xs : List ByteArray) (w0 : World) (he : Enters' Tryz.prog f) (hI : IterS w0 f caps Z xs) (hl : xs.length ≤ 1000000) :
    SatL Tryz.prog 164 [.func (.func f) #[] caps.toArray] w0 Z (SrdS xs Z) := by
  have hA := collectS_sat f caps Z xs w0 he hI hl
  by_cases h0 : xs.length = 0
  · have hxs := List.eq_nil_of_length_eq_zero h0
    subst hxs
    have hA2 := hA.mono (R' := fun u L => u = .slice none 0 0 ∧ L = .row 9 1 (.slice none 0 0) 0 (strs []) :: Z) (by
      rintro u L ⟨a, c, (⟨_, rfl, rfl⟩ | ⟨h9, _⟩), rfl, rfl⟩
      · exact ⟨rfl, rfl⟩
      · exact absurd h9 (by simp))
    refine SatL.of 9 [2] Tryz.func164 (by kernel_rfl) (by kernel_rfl) rfl rfl rfl rfl ?_
    repeat' (first|(apply OK_seq)|(apply thenQ_n)|(apply OK_region)|(apply OKx_gc 177;exact rfl; refine OKx_callL (f := 177) rfl rfl hA2 ?_; rintro _ _ ⟨rfl, rfl⟩)|(apply OKx_gc 178;exact rfl; refine OKx_callV (f := 178) rfl rfl rfl (fun w1 hp => sortS_nil_sat w1) ?_)|(apply OKx_nilK)|(apply OK_ret)|(apply OKx_move;(conv=>lhs;whnf)<;>exact rfl)|(apply OKx_assign;(conv=>lhs;whnf)<;>exact rfl))
    refine bodyQ_r1 (by ((conv=>lhs;whnf)<;>exact rfl)) ?_
    exact ⟨_, Ent.refl _ _, none, 0, .inl ⟨rfl, rfl, rfl⟩, rfl, by rw [show srtS [] = [] by simp [srtS, srtB]]; rfl⟩
  · have hA2 := hA.mono (R' := fun u L => ∃ ga c, u = .slice (some ⟨ga, 0, none⟩) xs.length c ∧ L = .row 9 1 (.slice (some ⟨ga, 0, none⟩) xs.length c) xs.length (strs xs) :: Z) (by
      rintro u L ⟨a, c, (⟨h1, rfl, rfl⟩ | ⟨_, g, rfl⟩), rfl, rfl⟩
      · exact absurd h1 h0
      · exact ⟨g, c, rfl, rfl⟩)
    refine SatL.of 9 [2] Tryz.func164 (by kernel_rfl) (by kernel_rfl) rfl rfl rfl rfl ?_
    repeat' (first|(apply OK_seq)|(apply thenQ_n)|(apply OK_region)|(apply OKx_gc 177;exact rfl; refine OKx_callL (f := 177) rfl rfl hA2 ?_; rintro _ _ ⟨ga, c, rfl, rfl⟩)|(apply OKx_gc 178;exact rfl; refine OKx_callL (f := 178) rfl rfl (sort_str_sat ga c xs.length xs _ _ 0 rfl rfl hl) ?_; rintro _ _ ⟨rfl, rfl⟩; rw [List.set_cons_zero])|(apply OKx_nilK)|(apply OK_ret)|(apply OKx_move;(conv=>lhs;whnf)<;>exact rfl)|(apply OKx_assign;(conv=>lhs;whnf)<;>exact rfl))
    refine bodyQ_r1 (by ((conv=>lhs;whnf)<;>exact rfl)) ?_
    exact ⟨_, Ent.refl _ _, some ⟨ga, 0, none⟩, c, .inr ⟨by omega, ga, rfl⟩, rfl, rfl⟩
theorem srtS_mem (zs : List ByteArray) : (srtS zs).Perm zs := by
  have hp : (srtB zs).Perm (zs.map fun x => x.data.toList) := List.mergeSort_perm _ _
  have := hp.map bOf
  rw [List.map_map] at this
  have e : (bOf ∘ fun x : ByteArray => x.data.toList) = id := by funext x; exact bOf_data x
  rw [e, List.map_id] at this
  exact this
theorem srtS_perm (xs ys : List ByteArray) : srtS xs = srtS ys ↔ xs.Perm ys := by
  have hp : ∀ zs : List ByteArray, (srtB zs).Perm (zs.map fun x => x.data.toList) := fun zs => List.mergeSort_perm _ _
  have hm : ∀ zs : List ByteArray, (srtS zs).Perm zs := fun zs => by
    have := (hp zs).map bOf
    rw [List.map_map] at this
    have e : (bOf ∘ fun x : ByteArray => x.data.toList) = id := by funext x; exact bOf_data x
    rw [e, List.map_id] at this
    exact this
  constructor
  · intro h
    exact (hm xs).symm.trans (h ▸ hm ys)
  · intro h
    unfold srtS
    congr 1
    have h2 : (srtB xs).Perm (srtB ys) := (hp xs).trans ((h.map _).trans (hp ys).symm)
    have ho : ∀ zs : List ByteArray, (srtB zs).Pairwise (fun x y => x ≤ y) := fun zs => by
      have := List.pairwise_mergeSort (le := fun x y : List UInt8 => decide (x ≤ y)) (fun a b c h1 h2 => by simp only [decide_eq_true_eq] at *; exact List.le_trans h1 h2) (fun a b => by simp only [Bool.or_eq_true, decide_eq_true_eq]; exact List.le_total a b) (zs.map fun x => x.data.toList)
      unfold srtB
      exact this.imp fun h => by simpa using h
    exact h2.eq_of_pairwise (fun a b _ _ h1 h2 => List.le_antisymm h1 h2) (ho xs) (ho ys)
end Go.Proofs.YthnlnffmmioapaaGreatDoor
