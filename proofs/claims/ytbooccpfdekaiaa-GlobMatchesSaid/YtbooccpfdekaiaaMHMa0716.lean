/-
  Part 16 of the proof: Gi07. No statement of the seat is proved here.
-/
import Derived.Test.YtbooccpfdekaiaaMHMa0715
namespace Go.Proofs.Ytbooccpfdekaiaa
open Go.RowKit
def errS (xs : List ByteArray) : Int := match xs with
  | [] => 0
  | s :: r => if chkS s.data.toList ≠ 0 then chkS s.data.toList else errS r
def filK (p : List UInt8) (xs : List ByteArray) : List ByteArray := xs.filter fun s => mtB (pat p) s.data.toList
def filE (p : List UInt8) (xs : List ByteArray) : Int := if patE p ≠ 0 then 1 else if 4096 < xs.length then 4 else errS xs
def filL (p : List UInt8) (xs : List ByteArray) : List ByteArray := if filE p xs ≠ 0 then [] else filK p xs
theorem errS_app (a b : List ByteArray) (h : errS a = 0) : errS (a ++ b) = errS b := by
  induction a with
  | nil => rfl
  | cons s r ih =>
    have h' : (if chkS s.data.toList ≠ 0 then chkS s.data.toList else errS r) = 0 := h
    by_cases hs : chkS s.data.toList = 0
    · rw [if_neg (fun hh => hh hs)] at h'
      show (if chkS s.data.toList ≠ 0 then _ else errS (r ++ b)) = _
      rw [if_neg (fun hh => hh hs), ih h']
    · rw [if_pos hs] at h'
      exact absurd h' hs
theorem strs_snoc7 (xs : List ByteArray) (x : ByteArray) : strs (xs ++ [x]) = strs xs ++ [.string x] := by simp [strs]
theorem filK_le (p : List UInt8) (xs : List ByteArray) : (filK p xs).length ≤ xs.length := List.length_filter_le _ _
theorem filK_snoc (p : List UInt8) (xs : List ByteArray) (s : ByteArray) : filK p (xs ++ [s]) = if mtB (pat p) s.data.toList then filK p xs ++ [s] else filK p xs := by
  unfold filK
  rw [List.filter_append]
  cases h : mtB (pat p) s.data.toList with
  | true => rw [if_pos rfl, List.filter_cons, if_pos h]; rfl
  | false => rw [if_neg (by decide), List.filter_cons, if_neg (by rw [h]; decide)]; exact List.append_nil _
def FilR (p : List UInt8) (xs : List ByteArray) (u : Value) (L : List Res) : Prop := ∃ v, u = .tuple #[v, .int .i64 (filE p xs)] ∧ L = [.row 9 1 v (filL p xs).length (strs (filL p xs))]
set_option maxRecDepth 100000 in
set_option maxHeartbeats 4000000 in
theorem Filter_sat (p : List UInt8) (v : Value) (xs : List ByteArray) (w : World) (hx : Strs w v xs) (hp : p.length ≤ 140737488355328) : Sat Try.prog 29 [.string (bOf p), v] w (FilR p xs) := by
  have hsl := hx.1
  have hbad : ∀ e, filE p xs = e → e ≠ 0 → FilR p xs (.tuple #[.slice none 0 0, .int .i64 e]) [.row 9 1 (.slice none 0 0) 0 []] := fun e he h0 =>
    ⟨_, by rw [he], by unfold filL; rw [if_pos (by rw [he]; exact h0)]; rfl⟩
  by_cases h : patE p = 0
  rotate_left
  · have e1 : filE p xs = 1 := if_pos h
    refine SatL.of 42 [4, 5] Try.func29 (by kernel_rfl) (by kernel_rfl) rfl rfl rfl rfl ?_
    repeat' (first|(apply OK_seq)|(apply thenQ_n)|(apply OK_region)|(apply OKx_gc 34;exact rfl; refine OKx_callV (f := 34) rfl rfl rfl (fun w1 hp1 => elements_bad p w1 hp h) ?_)|(apply OKx_nilK)|(apply OK_block)|(apply blockQ_n)|(apply blockQ_s)|(apply thenQ_e)|(apply blockQ_e;exact rfl)|(apply thenQ_r)|(apply blockQ_r)|(apply OK_condT;exact rfl)|(apply OK_condF;exact rfl)|(apply OK_skip)|(apply OK_exit)|(apply OK_ret)|(apply OKx_move;(conv=>lhs;whnf)<;>exact rfl)|(apply OKx_assign;(conv=>lhs;whnf)<;>exact rfl)|(apply OKx_ldB;exact rfl;(first | exact at0|exact at1|exact at2|exact at3|exact at4|exact at5|exact at6|exact at7);exact rfl)|(apply OKx_ldR;(conv=>lhs;whnf)<;>exact rfl;(with_reducible assumption))|(apply OKx_len;exact rfl)|(apply OKx_lenR;(conv=>lhs;whnf)<;>exact rfl;(with_reducible assumption))|(apply OKx_lenR2;(conv=>lhs;whnf)<;>exact rfl;(with_reducible assumption))|(apply OKx_lenO;(conv=>lhs;whnf)<;>exact rfl;(first | exact at0|exact at1|exact at2|exact at3|exact at4|exact at5|exact at6|exact at7))|(apply OKx_lss;exact rfl;exact rfl;all_goals (intro _; try (exfalso;omega)))|(apply OKx_gtr;exact rfl;exact rfl;all_goals (intro _; try (exfalso;omega)))|(apply OKx_neq;exact rfl;exact rfl;all_goals (intro _; try (exfalso;omega)))|(apply OKx_idxO;exact rfl;exact rfl;omega)|(apply OKx_idxR;(conv=>lhs;whnf)<;>exact rfl;(with_reducible assumption);exact rfl;omega;intro _ _)|(apply OKx_idxOz;exact rfl;exact rfl;omega;omega)|(apply OKx_idxRz;(conv=>lhs;whnf)<;>exact rfl;(with_reducible assumption);exact rfl;omega;omega;intro _ _)|(apply OKx_inc;exact rfl;exact rfl;omega)|(apply OKx_addN;exact rfl;exact rfl;omega)|(apply OKx_add;exact rfl;exact rfl;omega;omega)|(apply OKx_extract;exact rfl;(conv=>lhs;whnf)<;>exact rfl)|(apply OKx_slit1;(conv=>lhs;whnf)<;>exact rfl;exact rfl;intro _))
    refine bodyQ_r2 (by ((conv=>lhs;whnf)<;>exact rfl)) (by ((conv=>lhs;whnf)<;>exact rfl)) ?_
    exact ⟨_, Ent.mk fun w1 h1 => (h1.none).nil _ _, hbad _ e1 (by decide)⟩
  have hl := (patE_len h).1
  have hpl := pat_len p
  by_cases hm : 4096 < xs.length
  · have e1 : filE p xs = 4 := by unfold filE; rw [if_neg (fun hh => hh h), if_pos hm]
    refine SatL.of 42 [4, 5] Try.func29 (by kernel_rfl) (by kernel_rfl) rfl rfl rfl rfl ?_
    repeat' (first|(apply OK_seq)|(apply thenQ_n)|(apply OK_region)|(apply OKx_gc 34;exact rfl; refine OKx_call (f := 34) rfl rfl (fun w1 hp1 => elements_ok p w1 hp h) ?_; rintro _ _ ⟨ve, rfl, rfl⟩)|(apply OKx_nilK)|(apply OK_block)|(apply blockQ_n)|(apply blockQ_s)|(apply thenQ_e)|(apply blockQ_e;exact rfl)|(apply thenQ_r)|(apply blockQ_r)|(apply OK_condT;exact rfl)|(apply OK_condF;exact rfl)|(apply OK_skip)|(apply OK_exit)|(apply OK_ret)|(apply OKx_move;(conv=>lhs;whnf)<;>exact rfl)|(apply OKx_assign;(conv=>lhs;whnf)<;>exact rfl)|(apply OKx_ldB;exact rfl;(first | exact at0|exact at1|exact at2|exact at3|exact at4|exact at5|exact at6|exact at7);exact rfl)|(apply OKx_ldR;(conv=>lhs;whnf)<;>exact rfl;(with_reducible assumption))|(apply OKx_len;exact rfl)|(apply OKx_lenR;(conv=>lhs;whnf)<;>exact rfl;(with_reducible assumption))|(apply OKx_lenR2;(conv=>lhs;whnf)<;>exact rfl;(with_reducible assumption))|(apply OKx_lenO;(conv=>lhs;whnf)<;>exact rfl;(first | exact at0|exact at1|exact at2|exact at3|exact at4|exact at5|exact at6|exact at7))|(apply OKx_lss;exact rfl;exact rfl;all_goals (intro _; try (exfalso;omega)))|(apply OKx_gtr;exact rfl;exact rfl;all_goals (intro _; try (exfalso;omega)))|(apply OKx_neq;exact rfl;exact rfl;all_goals (intro _; try (exfalso;omega)))|(apply OKx_idxO;exact rfl;exact rfl;omega)|(apply OKx_idxR;(conv=>lhs;whnf)<;>exact rfl;(with_reducible assumption);exact rfl;omega;intro _ _)|(apply OKx_idxOz;exact rfl;exact rfl;omega;omega)|(apply OKx_idxRz;(conv=>lhs;whnf)<;>exact rfl;(with_reducible assumption);exact rfl;omega;omega;intro _ _)|(apply OKx_inc;exact rfl;exact rfl;omega)|(apply OKx_addN;exact rfl;exact rfl;omega)|(apply OKx_add;exact rfl;exact rfl;omega;omega)|(apply OKx_extract;exact rfl;(conv=>lhs;whnf)<;>exact rfl)|(apply OKx_slit1;(conv=>lhs;whnf)<;>exact rfl;exact rfl;intro _))
    refine bodyQ_r2 (by ((conv=>lhs;whnf)<;>exact rfl)) (by ((conv=>lhs;whnf)<;>exact rfl)) ?_
    exact ⟨_, Ent.mk fun w1 h1 => (h1.none).nil _ _, hbad _ e1 (by decide)⟩
  have hfe : filE p xs = errS xs := by unfold filE; rw [if_neg (fun hh => hh h), if_neg hm]
  refine SatL.of 42 [4, 5] Try.func29 (by kernel_rfl) (by kernel_rfl) rfl rfl rfl rfl ?_
  repeat' (first|(apply OK_seq)|(apply thenQ_n)|(apply OK_region)|(apply OKx_gc 34;exact rfl; refine OKx_call (f := 34) rfl rfl (fun w1 hp1 => elements_ok p w1 hp h) ?_; rintro _ _ ⟨ve, rfl, rfl⟩)|(apply OKx_nilK)|(apply OK_block)|(apply blockQ_n)|(apply blockQ_s)|(apply thenQ_e)|(apply blockQ_e;exact rfl)|(apply thenQ_r)|(apply blockQ_r)|(apply OK_condT;exact rfl)|(apply OK_condF;exact rfl)|(apply OK_skip)|(apply OK_exit)|(apply OK_ret)|(apply OKx_move;(conv=>lhs;whnf)<;>exact rfl)|(apply OKx_assign;(conv=>lhs;whnf)<;>exact rfl)|(apply OKx_ldB;exact rfl;(first | exact at0|exact at1|exact at2|exact at3|exact at4|exact at5|exact at6|exact at7);exact rfl)|(apply OKx_ldR;(conv=>lhs;whnf)<;>exact rfl;(with_reducible assumption))|(apply OKx_len;exact rfl)|(apply OKx_lenR;(conv=>lhs;whnf)<;>exact rfl;(with_reducible assumption))|(apply OKx_lenR2;(conv=>lhs;whnf)<;>exact rfl;(with_reducible assumption))|(apply OKx_lenO;(conv=>lhs;whnf)<;>exact rfl;(first | exact at0|exact at1|exact at2|exact at3|exact at4|exact at5|exact at6|exact at7))|(apply OKx_lss;exact rfl;exact rfl;all_goals (intro _; try (exfalso;omega)))|(apply OKx_gtr;exact rfl;exact rfl;all_goals (intro _; try (exfalso;omega)))|(apply OKx_neq;exact rfl;exact rfl;all_goals (intro _; try (exfalso;omega)))|(apply OKx_idxO;exact rfl;exact rfl;omega)|(apply OKx_idxR;(conv=>lhs;whnf)<;>exact rfl;(with_reducible assumption);exact rfl;omega;intro _ _)|(apply OKx_idxOz;exact rfl;exact rfl;omega;omega)|(apply OKx_idxRz;(conv=>lhs;whnf)<;>exact rfl;(with_reducible assumption);exact rfl;omega;omega;intro _ _)|(apply OKx_inc;exact rfl;exact rfl;omega)|(apply OKx_addN;exact rfl;exact rfl;omega)|(apply OKx_add;exact rfl;exact rfl;omega;omega)|(apply OKx_extract;exact rfl;(conv=>lhs;whnf)<;>exact rfl)|(apply OKx_slit1;(conv=>lhs;whnf)<;>exact rfl;exact rfl;intro _))
  refine OK_loop2 8 24 [4, 5, 8, 10, 11, 24, 25, 26, 27, 28, 29, 30, 31, 32, 33, 34, 35, 36, 37, 38, 39, 40] (fun mm u1 u2 L => ∃ k : Nat, k + mm = xs.length ∧ errS (xs.take k) = 0 ∧ u2 = .int .i64 (k : Int) ∧ L = [.row 9 1 u1 (filK p (xs.take k)).length (strs (filK p (xs.take k))), elsRes ve p]) xs.length _ (Ent.mk fun w1 h1 => h1.nil _ _) ⟨0, by omega, rfl, rfl, rfl⟩ ?_
  rintro mm u1 u2 L G ⟨k, hkm, herr, rfl, rfl⟩
  by_cases hk : k < xs.length
  · have hxk : xs[k]? = some (xs.getD k ByteArray.empty) := by rw [getD_lt _ _ _ hk]; exact List.getElem?_eq_getElem hk
    have htk : xs.take (k + 1) = xs.take k ++ [xs.getD k ByteArray.empty] := by rw [List.take_add_one, hxk]; rfl
    have hsz := hx.2 _ (List.mem_of_getElem? hxk)
    have hfs := filK_snoc p (xs.take k) (xs.getD k ByteArray.empty)
    rw [← htk] at hfs
    have hfl := filK_le p (xs.take k)
    rw [List.length_take] at hfl
    have hes : ∀ e, chkS (xs.getD k ByteArray.empty).data.toList = e → e ≠ 0 → errS xs = e := fun e he h0 => by
      have hd : xs = xs.take k ++ (xs.getD k ByteArray.empty :: xs.drop (k + 1)) := by
        rw [getD_lt _ _ _ hk, ← List.drop_eq_getElem_cons hk, List.take_append_drop]
      rw [hd, errS_app _ _ herr]
      show (if chkS (xs.getD k ByteArray.empty).data.toList ≠ 0 then chkS (xs.getD k ByteArray.empty).data.toList else _) = e
      rw [if_pos (by rw [he]; exact h0), he]
    have hes0 : chkS (xs.getD k ByteArray.empty).data.toList = 0 → errS (xs.take (k + 1)) = 0 := fun he => by
      rw [htk, errS_app _ _ herr]
      show (if chkS (xs.getD k ByteArray.empty).data.toList ≠ 0 then chkS (xs.getD k ByteArray.empty).data.toList else 0) = 0
      rw [if_neg (fun hh => hh he)]
    have hck := fun w1 => chkS_sat (xs.getD k ByteArray.empty).data.toList w1 hsz
    rw [bOf_data] at hck
    by_cases hc : chkS (xs.getD k ByteArray.empty).data.toList = 0
    rotate_left
    · have hee := hes _ rfl hc
      have hck2 := hc
      generalize chkS (xs.getD k ByteArray.empty).data.toList = ce at hck hee hck2
      repeat' (first|(apply OK_seq)|(apply thenQ_n)|(apply OK_region)|(apply OKx_gc 35;exact rfl; refine OKx_callV (f := 35) rfl rfl rfl (fun w1 hp1 => hck w1) ?_)|(apply OKx_nilK)|(apply OK_block)|(apply blockQ_n)|(apply blockQ_s)|(apply thenQ_e)|(apply blockQ_e;exact rfl)|(apply thenQ_r)|(apply blockQ_r)|(apply OK_condT;exact rfl)|(apply OK_condF;exact rfl)|(apply OK_skip)|(apply OK_exit)|(apply OK_ret)|(apply OKx_move;(conv=>lhs;whnf)<;>exact rfl)|(apply OKx_assign;(conv=>lhs;whnf)<;>exact rfl)|(apply OKx_ldB;exact rfl;(first | exact at0|exact at1|exact at2|exact at3|exact at4|exact at5|exact at6|exact at7);exact rfl)|(apply OKx_ldR;(conv=>lhs;whnf)<;>exact rfl;(with_reducible assumption))|(apply OKx_len;exact rfl)|(apply OKx_lenR;(conv=>lhs;whnf)<;>exact rfl;(with_reducible assumption))|(apply OKx_lenR2;(conv=>lhs;whnf)<;>exact rfl;(with_reducible assumption))|(apply OKx_lenO;(conv=>lhs;whnf)<;>exact rfl;(first | exact at0|exact at1|exact at2|exact at3|exact at4|exact at5|exact at6|exact at7))|(apply OKx_lss;exact rfl;exact rfl;all_goals (intro _; try (exfalso;omega)))|(apply OKx_gtr;exact rfl;exact rfl;all_goals (intro _; try (exfalso;omega)))|(apply OKx_neq;exact rfl;exact rfl;all_goals (intro _; try (exfalso;omega)))|(apply OKx_idxO;exact rfl;exact rfl;omega)|(apply OKx_idxR;(conv=>lhs;whnf)<;>exact rfl;(with_reducible assumption);exact rfl;omega;intro _ _)|(apply OKx_idxOz;exact rfl;exact rfl;omega;omega)|(apply OKx_idxRz;(conv=>lhs;whnf)<;>exact rfl;(with_reducible assumption);exact rfl;omega;omega;intro _ _)|(apply OKx_inc;exact rfl;exact rfl;omega)|(apply OKx_addN;exact rfl;exact rfl;omega)|(apply OKx_add;exact rfl;exact rfl;omega;omega)|(apply OKx_extract;exact rfl;(conv=>lhs;whnf)<;>exact rfl)|(apply OKx_slit1;(conv=>lhs;whnf)<;>exact rfl;exact rfl;intro _))
      refine bodyQ_r2 (by ((conv=>lhs;whnf)<;>exact rfl)) (by ((conv=>lhs;whnf)<;>exact rfl)) ?_
      exact ⟨_, Ent.mk fun w1 h1 => (h1.none).nil _ _, hbad _ (by rw [hfe, hee]) hck2⟩
    have hmt := fun w1 v' h1 => matches_sat v' (pat p) (xs.getD k ByteArray.empty).data.toList w1 h1 (by omega) hsz
    rw [bOf_data] at hmt
    rw [hc] at hck
    cases hmb : mtB (pat p) (xs.getD k ByteArray.empty).data.toList with
    | true =>
      rw [hmb] at hmt
      rw [hmb, if_pos rfl] at hfs
      have hss := strs_snoc7 (filK p (xs.take k)) (xs.getD k ByteArray.empty)
      repeat' (first|(apply OK_seq)|(apply thenQ_n)|(apply OK_region)|(apply OKx_gc 35;exact rfl; refine OKx_callV (f := 35) rfl rfl rfl (fun w1 hp1 => hck w1) ?_)|(apply OKx_gc 36;exact rfl; refine OKx_callV (f := 36) rfl rfl rfl (fun w1 hp1 => hmt w1 ve (hp1.elsR 1 rfl h)) ?_)|(apply OKx_gb; refine OKx_append1 1 0 rfl rfl rfl rfl rfl (by omega) (by omega) ?_; intro gr cr)|(apply OKx_nilK)|(apply OK_block)|(apply blockQ_n)|(apply blockQ_s)|(apply thenQ_e)|(apply blockQ_e;exact rfl)|(apply thenQ_r)|(apply blockQ_r)|(apply OK_condT;exact rfl)|(apply OK_condF;exact rfl)|(apply OK_skip)|(apply OK_exit)|(apply OK_ret)|(apply OKx_move;(conv=>lhs;whnf)<;>exact rfl)|(apply OKx_assign;(conv=>lhs;whnf)<;>exact rfl)|(apply OKx_ldB;exact rfl;(first | exact at0|exact at1|exact at2|exact at3|exact at4|exact at5|exact at6|exact at7);exact rfl)|(apply OKx_ldR;(conv=>lhs;whnf)<;>exact rfl;(with_reducible assumption))|(apply OKx_len;exact rfl)|(apply OKx_lenR;(conv=>lhs;whnf)<;>exact rfl;(with_reducible assumption))|(apply OKx_lenR2;(conv=>lhs;whnf)<;>exact rfl;(with_reducible assumption))|(apply OKx_lenO;(conv=>lhs;whnf)<;>exact rfl;(first | exact at0|exact at1|exact at2|exact at3|exact at4|exact at5|exact at6|exact at7))|(apply OKx_lss;exact rfl;exact rfl;all_goals (intro _; try (exfalso;omega)))|(apply OKx_gtr;exact rfl;exact rfl;all_goals (intro _; try (exfalso;omega)))|(apply OKx_neq;exact rfl;exact rfl;all_goals (intro _; try (exfalso;omega)))|(apply OKx_idxO;exact rfl;exact rfl;omega)|(apply OKx_idxR;(conv=>lhs;whnf)<;>exact rfl;(with_reducible assumption);exact rfl;omega;intro _ _)|(apply OKx_idxOz;exact rfl;exact rfl;omega;omega)|(apply OKx_idxRz;(conv=>lhs;whnf)<;>exact rfl;(with_reducible assumption);exact rfl;omega;omega;intro _ _)|(apply OKx_inc;exact rfl;exact rfl;omega)|(apply OKx_addN;exact rfl;exact rfl;omega)|(apply OKx_add;exact rfl;exact rfl;omega;omega)|(apply OKx_extract;exact rfl;(conv=>lhs;whnf)<;>exact rfl)|(apply OKx_slit1;(conv=>lhs;whnf)<;>exact rfl;exact rfl;intro _))
      refine ⟨by (repeat' (first | refine agree_upd rfl ?_ | exact agree_over | exact agree_refl _ _ | refine agree_over2 rfl ?_)), mm - 1, _, by omega, Ent.pick [1, 2] rfl, ?_⟩
      exact ⟨k + 1, by omega, hes0 hc, rfl, by rw [hfs, List.length_append, hss] <;> rfl⟩
    | false =>
      rw [hmb] at hmt
      rw [hmb, if_neg (by decide)] at hfs
      repeat' (first|(apply OK_seq)|(apply thenQ_n)|(apply OK_region)|(apply OKx_gc 35;exact rfl; refine OKx_callV (f := 35) rfl rfl rfl (fun w1 hp1 => hck w1) ?_)|(apply OKx_gc 36;exact rfl; refine OKx_callV (f := 36) rfl rfl rfl (fun w1 hp1 => hmt w1 ve (hp1.elsR 1 rfl h)) ?_)|(apply OKx_nilK)|(apply OK_block)|(apply blockQ_n)|(apply blockQ_s)|(apply thenQ_e)|(apply blockQ_e;exact rfl)|(apply thenQ_r)|(apply blockQ_r)|(apply OK_condT;exact rfl)|(apply OK_condF;exact rfl)|(apply OK_skip)|(apply OK_exit)|(apply OK_ret)|(apply OKx_move;(conv=>lhs;whnf)<;>exact rfl)|(apply OKx_assign;(conv=>lhs;whnf)<;>exact rfl)|(apply OKx_ldB;exact rfl;(first | exact at0|exact at1|exact at2|exact at3|exact at4|exact at5|exact at6|exact at7);exact rfl)|(apply OKx_ldR;(conv=>lhs;whnf)<;>exact rfl;(with_reducible assumption))|(apply OKx_len;exact rfl)|(apply OKx_lenR;(conv=>lhs;whnf)<;>exact rfl;(with_reducible assumption))|(apply OKx_lenR2;(conv=>lhs;whnf)<;>exact rfl;(with_reducible assumption))|(apply OKx_lenO;(conv=>lhs;whnf)<;>exact rfl;(first | exact at0|exact at1|exact at2|exact at3|exact at4|exact at5|exact at6|exact at7))|(apply OKx_lss;exact rfl;exact rfl;all_goals (intro _; try (exfalso;omega)))|(apply OKx_gtr;exact rfl;exact rfl;all_goals (intro _; try (exfalso;omega)))|(apply OKx_neq;exact rfl;exact rfl;all_goals (intro _; try (exfalso;omega)))|(apply OKx_idxO;exact rfl;exact rfl;omega)|(apply OKx_idxR;(conv=>lhs;whnf)<;>exact rfl;(with_reducible assumption);exact rfl;omega;intro _ _)|(apply OKx_idxOz;exact rfl;exact rfl;omega;omega)|(apply OKx_idxRz;(conv=>lhs;whnf)<;>exact rfl;(with_reducible assumption);exact rfl;omega;omega;intro _ _)|(apply OKx_inc;exact rfl;exact rfl;omega)|(apply OKx_addN;exact rfl;exact rfl;omega)|(apply OKx_add;exact rfl;exact rfl;omega;omega)|(apply OKx_extract;exact rfl;(conv=>lhs;whnf)<;>exact rfl)|(apply OKx_slit1;(conv=>lhs;whnf)<;>exact rfl;exact rfl;intro _))
      refine ⟨by (repeat' (first | refine agree_upd rfl ?_ | exact agree_over | exact agree_refl _ _ | refine agree_over2 rfl ?_)), mm - 1, _, by omega, Ent.refl _ _, ?_⟩
      exact ⟨k + 1, by omega, hes0 hc, rfl, by rw [hfs] <;> rfl⟩
  · obtain rfl : k = xs.length := by omega
    rw [List.take_length] at herr ⊢
    repeat' (first|(apply OK_seq)|(apply thenQ_n)|(apply OK_region)|(apply OKx_nilK)|(apply OK_block)|(apply blockQ_n)|(apply blockQ_s)|(apply thenQ_e)|(apply blockQ_e;exact rfl)|(apply thenQ_r)|(apply blockQ_r)|(apply OK_condT;exact rfl)|(apply OK_condF;exact rfl)|(apply OK_skip)|(apply OK_exit)|(apply OK_ret)|(apply OKx_move;(conv=>lhs;whnf)<;>exact rfl)|(apply OKx_assign;(conv=>lhs;whnf)<;>exact rfl)|(apply OKx_ldB;exact rfl;(first | exact at0|exact at1|exact at2|exact at3|exact at4|exact at5|exact at6|exact at7);exact rfl)|(apply OKx_ldR;(conv=>lhs;whnf)<;>exact rfl;(with_reducible assumption))|(apply OKx_len;exact rfl)|(apply OKx_lenR;(conv=>lhs;whnf)<;>exact rfl;(with_reducible assumption))|(apply OKx_lenR2;(conv=>lhs;whnf)<;>exact rfl;(with_reducible assumption))|(apply OKx_lenO;(conv=>lhs;whnf)<;>exact rfl;(first | exact at0|exact at1|exact at2|exact at3|exact at4|exact at5|exact at6|exact at7))|(apply OKx_lss;exact rfl;exact rfl;all_goals (intro _; try (exfalso;omega)))|(apply OKx_gtr;exact rfl;exact rfl;all_goals (intro _; try (exfalso;omega)))|(apply OKx_neq;exact rfl;exact rfl;all_goals (intro _; try (exfalso;omega)))|(apply OKx_idxO;exact rfl;exact rfl;omega)|(apply OKx_idxR;(conv=>lhs;whnf)<;>exact rfl;(with_reducible assumption);exact rfl;omega;intro _ _)|(apply OKx_idxOz;exact rfl;exact rfl;omega;omega)|(apply OKx_idxRz;(conv=>lhs;whnf)<;>exact rfl;(with_reducible assumption);exact rfl;omega;omega;intro _ _)|(apply OKx_inc;exact rfl;exact rfl;omega)|(apply OKx_addN;exact rfl;exact rfl;omega)|(apply OKx_add;exact rfl;exact rfl;omega;omega)|(apply OKx_extract;exact rfl;(conv=>lhs;whnf)<;>exact rfl)|(apply OKx_slit1;(conv=>lhs;whnf)<;>exact rfl;exact rfl;intro _))
    refine bodyQ_r2 (by ((conv=>lhs;whnf)<;>exact rfl)) (by ((conv=>lhs;whnf)<;>exact rfl)) ?_
    exact ⟨_, Ent.pick [0] rfl, _, by rw [hfe, herr] <;> rfl, by unfold filL; rw [if_neg (by rw [hfe, herr]; exact fun hh => hh rfl)]; rfl⟩
end Go.Proofs.Ytbooccpfdekaiaa
