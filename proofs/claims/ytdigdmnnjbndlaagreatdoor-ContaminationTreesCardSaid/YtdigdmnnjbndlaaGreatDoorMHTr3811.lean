/-
  Part 11 of the proof: Spl, Pf36, Pw36, Stl, Cpt, Idx, C38. No statement of the seat is proved here.
-/
import Derived.Test.YtdigdmnnjbndlaaGreatDoorMHTr3810
import Derived.Lib.IndexBytes
import Derived.Lib.IndexLaws
import Derived.Lib.CutLaws
import Derived.Lib.SplitLaws
import Derived.Lib.ItoaNum
import Derived.StringKeys
namespace Go.Proofs.YtdigdmnnjbndlaaGreatDoor
open Go.RowKit
def bOf (l : List UInt8) : ByteArray := ⟨l.toArray⟩
theorem bOf_data (s : ByteArray) : bOf s.data.toList = s := by
  unfold bOf
  cases s
  rfl
theorem data_bOf (l : List UInt8) : (bOf l).data.toList = l := rfl
theorem bOf_size (l : List UInt8) : (bOf l).size = l.length := rfl
end Go.Proofs.YtdigdmnnjbndlaaGreatDoor
namespace Go.Proofs.YtdigdmnnjbndlaaGreatDoor
open Go.RowKit
def inK (par : List Int) (i k : Nat) : Bool := anyN (fun j => decide (par.getD j 0 = (i : Int))) k
def inn (t : Tre) (i : Nat) : Bool := inK t.par i t.par.length
def parB (par : List Int) (i : Nat) : Prop := if i = 0 then par.getD 0 0 ≠ -1 else par.getD i 0 < 0 ∨ (i : Int) ≤ par.getD i 0
instance (par : List Int) (i : Nat) : Decidable (parB par i) := by unfold parB; infer_instance
def parE (t : Tre) (i : Nat) : Int := if parB t.par i then 2 else 0
def namE (t : Tre) (i : Nat) : Int :=
  if inn t i = true then (if t.names.getD i ByteArray.empty = ByteArray.empty then 0 else 14)
  else if leafNm (t.names.getD i ByteArray.empty) = false then 14
  else if Lib.containsS (t.names.take i) (t.names.getD i ByteArray.empty) = true then 7 else 0
def treC (t : Tre) : Int :=
  if t.par.length = 0 then 5 else if 64 < t.par.length then 4 else if t.names.length ≠ t.par.length then 9
  else if firstErr (parE t) t.par.length ≠ 0 then firstErr (parE t) t.par.length else firstErr (namE t) t.par.length
theorem inK_step (par : List Int) (i k : Nat) : inK par i (k + 1) = (inK par i k || decide (par.getD k 0 = (i : Int))) := by
  unfold inK anyN
  rw [List.range_succ, List.any_append]
  simp
theorem treC_len {t : Tre} (h : treC t = 0) : 0 < t.par.length ∧ t.par.length ≤ 64 ∧ t.names.length = t.par.length ∧ (∀ i, i < t.par.length → ¬ parB t.par i) ∧ ∀ i, i < t.par.length → namE t i = 0 := by
  unfold treC at h
  split at h
  · omega
  split at h
  · omega
  split at h
  · omega
  split at h
  · omega
  · rename_i h1 h2 h3 h4
    refine ⟨by omega, by omega, by omega, fun i hi hb => ?_, firstErr_zero _ _ h⟩
    have := firstErr_zero _ _ (by omega : firstErr (parE t) t.par.length = 0) i hi
    unfold parE at this
    rw [if_pos hb] at this
    omega
theorem treC_par {t : Tre} (h : treC t = 0) : t.par.getD 0 0 = -1 ∧ ∀ i, 0 < i → i < t.par.length → 0 ≤ t.par.getD i 0 ∧ t.par.getD i 0 < (i : Int) := by
  obtain ⟨h0, _, _, hp, _⟩ := treC_len h
  refine ⟨?_, fun i h1 h2 => ?_⟩
  · have := hp 0 h0
    unfold parB at this
    rw [if_pos rfl] at this
    omega
  · have := hp i h2
    unfold parB at this
    rw [if_neg (by omega)] at this
    omega
theorem treC_nm {t : Tre} (h : treC t = 0) (i : Nat) (hi : i < t.par.length) : (inn t i = true ∧ t.names.getD i ByteArray.empty = ByteArray.empty) ∨ (inn t i = false ∧ leafNm (t.names.getD i ByteArray.empty) = true ∧ Lib.containsS (t.names.take i) (t.names.getD i ByteArray.empty) = false) := by
  have := (treC_len h).2.2.2.2 i hi
  unfold namE at this
  split at this
  · split at this
    · exact .inl ⟨by assumption, by assumption⟩
    · omega
  · split at this
    · omega
    split at this
    · omega
    · rename_i h1 h2 h3
      exact .inr ⟨by simpa using h1, by simpa using h2, by simpa using h3⟩
theorem leafNm_ne {x : ByteArray} (h : leafNm x = true) : x ≠ ByteArray.empty := by
  rintro rfl
  revert h
  decide
theorem treC_leaf {t : Tre} (h : treC t = 0) (i : Nat) (hi : i < t.par.length) : (t.names.getD i ByteArray.empty = ByteArray.empty) ↔ inn t i = true := by
  rcases treC_nm h i hi with ⟨h1, h2⟩ | ⟨h1, h2, _⟩
  · exact ⟨fun _ => h1, fun _ => h2⟩
  · exact ⟨fun e => absurd e (leafNm_ne h2), fun e => by rw [h1] at e; cases e⟩
def itS (i : Nat) : ByteArray := bOf (120 :: Lib.decDigits i)
def treW (t : Tre) (i : Nat) : ByteArray := if t.names.getD i ByteArray.empty = ByteArray.empty then itS i else t.names.getD i ByteArray.empty
def ftN (t : Tre) (k : Nat) : List ByteArray := (List.range k).map (treW t)
def ftX (t : Tre) (k : Nat) : List Bool := (List.range k).map fun i => decide (t.names.getD i ByteArray.empty ≠ ByteArray.empty)
def ftP (t : Tre) (k : Nat) : List (List Int) := (List.range k).map fun i => if i = 0 then [] else [t.par.getD i 0]
def ftS (t : Tre) : Stem := ⟨ftN t t.par.length, ftX t t.par.length, ftP t t.par.length⟩
def dupE (t : Tre) (i : Nat) : Int := if Lib.containsS ((ftN t t.par.length).take i) ((ftN t t.par.length).getD i ByteArray.empty) = true then 7 else 0
def ftE (t : Tre) : Int := if treC t ≠ 0 then 1 else firstErr (dupE t) t.par.length
theorem ftN_step (t : Tre) (k : Nat) : ftN t (k + 1) = ftN t k ++ [treW t k] := by
  unfold ftN; rw [List.range_succ, List.map_append]; rfl
theorem ftX_step (t : Tre) (k : Nat) : ftX t (k + 1) = ftX t k ++ [decide (t.names.getD k ByteArray.empty ≠ ByteArray.empty)] := by
  unfold ftX; rw [List.range_succ, List.map_append]; rfl
theorem ftP_step (t : Tre) (k : Nat) : ftP t (k + 1) = ftP t k ++ [if k = 0 then [] else [t.par.getD k 0]] := by
  unfold ftP; rw [List.range_succ, List.map_append]; rfl
theorem ftN_len (t : Tre) (k : Nat) : (ftN t k).length = k := by simp [ftN]
theorem ftX_len (t : Tre) (k : Nat) : (ftX t k).length = k := by simp [ftX]
theorem ftP_len (t : Tre) (k : Nat) : (ftP t k).length = k := by simp [ftP]
theorem ftN_at (t : Tre) (k i : Nat) (h : i < k) : (ftN t k).getD i ByteArray.empty = treW t i := by simp [ftN, h]
theorem ftP_at (t : Tre) (k i : Nat) (h : i < k) : (ftP t k).getD i [] = if i = 0 then [] else [t.par.getD i 0] := by simp [ftP, h]
theorem itS_nm : ∀ i, i < 64 → leafNm (itS i) = true := by
  have : (List.range 64).all (fun i => leafNm (itS i)) = true := by decide +kernel
  intro i hi
  exact List.all_eq_true.1 this i (List.mem_range.2 hi)
theorem treW_nm {t : Tre} (h : treC t = 0) (i : Nat) (hi : i < t.par.length) : leafNm (treW t i) = true := by
  have hl := treC_len h
  unfold treW
  by_cases h3 : t.names.getD i ByteArray.empty = ByteArray.empty
  · rw [if_pos h3]; exact itS_nm i (by omega)
  · rw [if_neg h3]
    rcases treC_nm h i hi with ⟨_, h2⟩ | ⟨_, h2, _⟩
    · exact absurd h2 h3
    · exact h2
theorem ftS_at {t : Tre} (h : treC t = 0) (i : Nat) (hi : i < t.par.length) : stAt (ftS t) i = dupE t i := by
  have hp := treC_par h
  unfold stAt dupE
  have e1 : (ftS t).names.getD i ByteArray.empty = treW t i := ftN_at t _ i hi
  have e2 : (ftS t).par.getD i [] = if i = 0 then [] else [t.par.getD i 0] := ftP_at t _ i hi
  have e3 : rngB ((ftS t).par.getD i []) i = false := by
    rw [e2]
    by_cases h0 : i = 0
    · rw [if_pos h0]; rfl
    · rw [if_neg h0]
      have := hp.2 i (by omega) hi
      simp only [rngB, List.any_cons, List.any_nil, Bool.or_false]
      rw [decide_eq_false (by omega), decide_eq_false (by omega)]; rfl
  have e4 : incB ((ftS t).par.getD i []) = true := by
    rw [e2]
    unfold incB
    split <;> simp
  rw [if_neg (by rw [e1, treW_nm h i hi]; simp), if_neg (c := rngB _ _ = true) (by rw [e3]; simp), if_neg (c := incB _ = false) (by rw [e4]; simp)]
  rfl
theorem firstErr_congr (f g : Nat → Int) : ∀ n : Nat, (∀ i, i < n → f i = g i) → firstErr f n = firstErr g n
  | 0, _ => rfl
  | n + 1, h => by
    rw [firstErr, firstErr, firstErr_congr f g n (fun i hi => h i (by omega)), h n (by omega)]
theorem ftS_chk {t : Tre} (h : treC t = 0) : stCheck (ftS t) = firstErr (dupE t) t.par.length := by
  have hl := treC_len h
  have e1 : (ftS t).names.length = t.par.length := ftN_len t _
  have e2 : (ftS t).ext.length = t.par.length := ftX_len t _
  have e3 : (ftS t).par.length = t.par.length := ftP_len t _
  unfold stCheck
  rw [if_neg (by omega), if_neg (by omega), if_neg (by omega), e1]
  exact firstErr_congr _ _ _ fun i hi => ftS_at h i hi
theorem dupE_val (t : Tre) : ∀ n : Nat, firstErr (dupE t) n = 0 ∨ firstErr (dupE t) n = 7
  | 0 => .inl rfl
  | n + 1 => by
    rw [firstErr]
    split
    · exact dupE_val t n
    · unfold dupE
      split
      · exact .inr rfl
      · exact .inl rfl
theorem ftE_zero {t : Tre} (h : ftE t = 0) : treC t = 0 ∧ stCheck (ftS t) = 0 := by
  unfold ftE at h
  split at h
  · omega
  · rename_i h1
    have h1 : treC t = 0 := by omega
    exact ⟨h1, by rw [ftS_chk h1]; exact h⟩
theorem ftE_val (t : Tre) : (treC t ≠ 0 ∧ ftE t = 1) ∨ (treC t = 0 ∧ stCheck (ftS t) = 0 ∧ ftE t = 0) ∨ (treC t = 0 ∧ stCheck (ftS t) ≠ 0 ∧ ftE t = 7) := by
  by_cases h : treC t = 0
  · right
    have e : ftE t = firstErr (dupE t) t.par.length := if_neg (by omega)
    rw [ftS_chk h, e]
    rcases dupE_val t t.par.length with h1 | h1
    · exact .inl ⟨h, h1, h1⟩
    · exact .inr ⟨h, by omega, h1⟩
  · exact .inl ⟨h, if_pos h⟩
theorem containsS_take {xs : List ByteArray} {x : ByteArray} {i j : Nat} (hj : j < i) (hx : j < xs.length) (h : xs.getD j ByteArray.empty = x) : Lib.containsS (xs.take i) x = true := by
  rw [Lib.containsS_iff, ← h, getD_lt _ _ _ hx]
  exact List.mem_take_iff_getElem.2 ⟨j, by omega, rfl⟩
end Go.Proofs.YtdigdmnnjbndlaaGreatDoor
namespace Go.Proofs.YtdigdmnnjbndlaaGreatDoor
theorem conS_app (ns : List ByteArray) (x y : ByteArray) : Lib.containsS (ns ++ [y]) x = (Lib.containsS ns x || decide (y = x)) := by
  rw [Bool.eq_iff_iff, Bool.or_eq_true, Lib.containsS_iff, Lib.containsS_iff, List.mem_append, List.mem_singleton, decide_eq_true_eq]
  exact ⟨fun h => h.imp id fun e => e.symm, fun h => h.imp id fun e => e.symm⟩
end Go.Proofs.YtdigdmnnjbndlaaGreatDoor
namespace Go.Proofs.YtdigdmnnjbndlaaGreatDoor
open Go.RowKit Go.Maps
def MxL (w : World) : Prop := ∃ m, w.cell? ⟨1, 0, none⟩ = some (.int .i64 m)
theorem MxL.below {w w' : World} (h : MxL w) (hb : Below w.heap.size w w') : MxL w' := by
  obtain ⟨m, hm⟩ := h
  refine ⟨m, ?_⟩
  rw [← hm]
  have hlt : 1 < w.heap.size := by
    unfold World.cell? at hm
    cases h : w.heap[1]? with
    | none => simp [h] at hm
    | some o => exact (Array.getElem?_eq_some_iff.1 h).1
  unfold World.cell?
  rw [hb.block _ hlt]
theorem mxl_of (w : World) (h : w.ShapedOpen Tryz.prog) : MxL w := cell_of_shapedOpen_int (zero := #[.int .i64 0]) (t := 3) h (of_decide_eq_true (by kernel_rfl)) (by kernel_rfl) rfl (by kernel_rfl) (by kernel_rfl) Tryz.underlying3
end Go.Proofs.YtdigdmnnjbndlaaGreatDoor
namespace Go.Proofs.YtdigdmnnjbndlaaGreatDoor
open Go.RowKit
theorem arr_get (xs : List Int) (j : Nat) (h : j < xs.length) : xs.toArray[j]! = xs[j] := by simp [h]
theorem compact_mem (xs : List Int) (x : Int) : x ∈ Lib.compact xs ↔ x ∈ xs := by
  unfold Lib.compact Lib.compactUpTo
  simp only [List.mem_map, List.mem_filter, List.mem_range]
  constructor
  · rintro ⟨j, ⟨h1, _⟩, rfl⟩
    rw [arr_get xs j h1]
    exact List.getElem_mem h1
  · intro hx
    obtain ⟨j, hj, rfl⟩ := List.getElem_of_mem hx
    clear hx
    induction j with
    | zero => exact ⟨0, ⟨hj, by simp [Lib.keeps]⟩, arr_get xs 0 hj⟩
    | succ j ih =>
      by_cases he : xs[j + 1] = xs[j]
      · rw [he]; exact ih (by omega)
      · refine ⟨j + 1, ⟨hj, ?_⟩, arr_get xs _ hj⟩
        apply Lib.keeps_pos
        rw [arr_get xs _ hj, Nat.add_sub_cancel, arr_get xs j (by omega)]
        exact he
theorem compact_asc (xs : List Int) (h : xs.Pairwise (· ≤ ·)) : (Lib.compact xs).Pairwise (· < ·) := by
  unfold Lib.compact Lib.compactUpTo
  rw [List.pairwise_map]
  refine (List.Pairwise.filter (Lib.keeps xs.toArray) List.pairwise_lt_range).imp_of_mem ?_
  intro i j hi hj hij
  simp only [List.mem_filter, List.mem_range] at hi hj
  have hk : xs.toArray[j]! ≠ xs.toArray[j - 1]! := by
    have := hj.2
    simp only [Lib.keeps, decide_eq_true_eq] at this
    rcases this with h0 | h0
    · omega
    · exact h0
  rw [arr_get xs j hj.1, arr_get xs (j - 1) (by omega)] at hk
  rw [arr_get xs i hi.1, arr_get xs j hj.1]
  have hp := List.pairwise_iff_getElem.1 h
  have h1 := hp (j - 1) j (by omega) hj.1 (by omega)
  rcases Nat.lt_or_ge i (j - 1) with h2 | h2
  · have := hp i (j - 1) hi.1 (by omega) h2
    omega
  · have : i = j - 1 := by omega
    subst this
    omega
theorem compact_len (xs : List Int) : (Lib.compact xs).length ≤ xs.length := by
  unfold Lib.compact Lib.compactUpTo
  rw [List.length_map]
  exact Nat.le_trans (List.length_filter_le _ _) (by simp)
set_option maxRecDepth 100000 in
set_option maxHeartbeats 4000000 in
theorem compact_int_sat (g cap n : Nat) (xs : List Int) (w0 : World) (L : List Res) (i : Nat) (hxn : xs.length = n) (hi : L[i]? = some (.row 3 1 (.slice (some ⟨g, 0, none⟩) n cap) n (ints xs))) (hx : n ≤ 1000000) :
    SatL Tryz.prog 97 [.slice (some ⟨g, 0, none⟩) n cap] w0 L (fun u L' => ∃ k, k = (Lib.compact xs).length ∧ u = .slice (some ⟨g, 0, none⟩) k cap ∧ L' = L.set i (.row 3 1 (.slice (some ⟨g, 0, none⟩) k cap) k (ints (Lib.compact xs)))) := by
  subst hxn
  refine ⟨⟨_, _, Tryz.func97, by kernel_rfl, rfl⟩, fun w hp => ?_⟩
  have ho : w.ownsRow w0.heap.size 3 1 (.slice (some ⟨g, 0, none⟩) xs.length cap) xs.length (ints xs) := hp.ok _ (List.mem_of_getElem? hi)
  have hlt := (ho.lt g rfl).2
  rcases ho.2 with ⟨h0, _⟩ | ⟨g', cap', cur, hv, hg, hb, hn, hcap, hsz, htake⟩
  · cases h0
  cases hv
  rw [Nat.mul_one] at htake
  have hcl := compact_len xs
  let ts := Lib.compact xs ++ List.replicate (xs.length - (Lib.compact xs).length) 0
  have htl : ts.length = xs.length := by simp [ts];omega
  refine (Tryz.slices_Compact_int g 0 cap xs w (Go.holds_of_blockI hb htake) (by omega) hn).mono ?_
  rintro e w' ⟨rfl, q, rfl⟩
  have e0 : ∀ W : World, Go.Sort.grow W #[] = W := fun W => Go.Sort.grow_empty W
  rw [← e0 (Go.Sort.putRow _ _ _ _ _)]
  have h1 : Hp w0.heap.size w0 (Go.Sort.grow (Go.Sort.putRow (Value.int .i64) (Go.Sort.ahead w q) g 0 ts.toArray) #[]) (L.set i (.row 3 1 (.slice (some ⟨g, 0, none⟩) xs.length cap) xs.length (ints ts))) :=
    hp.turn hi (r' := .row 3 1 (.slice (some ⟨g, 0, none⟩) xs.length cap) xs.length (ints ts)) (Go.grownBy_sortedI _) (Go.ownsRow_sortedI (w := w) (n := q) (os := #[]) (ts := ts) htl hg hb hn hcap hsz) (fun k hk => .inl hk)
  have hil : i < L.length := (List.getElem?_eq_some_iff.1 hi).1
  have hi2 : (L.set i (.row 3 1 (.slice (some ⟨g, 0, none⟩) xs.length cap) xs.length (ints ts)))[i]? = some (.row 3 1 (.slice (some ⟨g, 0, none⟩) xs.length cap) xs.length (ints ts)) := by
    rw [List.getElem?_set, if_pos rfl, if_pos hil]
  have h2 := h1.cut i hi2 (Lib.compact xs).length hcl
  rw [List.set_set] at h2
  have h3 : (ints ts).take ((Lib.compact xs).length * 1) = ints (Lib.compact xs) := by
    rw [Nat.mul_one]
    simp [ts, ints]
  rw [h3] at h2
  exact ⟨_, _, rfl, h2, _, rfl, rfl, rfl⟩
end Go.Proofs.YtdigdmnnjbndlaaGreatDoor
namespace Go.Proofs.YtdigdmnnjbndlaaGreatDoor
open Go.RowKit
def IdxW (p : Nat → Bool) (N : Nat) (u : Value) (L : List Res) : Prop := L = [] ∧ ((∃ k : Nat, k < N ∧ u = .int .i64 (k : Int) ∧ p k = true ∧ ∀ j, j < k → p j = false) ∨ (u = .int .i64 (-1) ∧ ∀ j, j < N → p j = false))
set_option maxRecDepth 100000 in
set_option maxHeartbeats 4000000 in
theorem indexW_int_sat (v : Value) (N : Nat) (e : Nat → Value) (p : Nat → Bool) (g : FuncId) (cs : Array Value) (w : World) (h : Sl w v 1 N e) (hf : ∀ k, k < N → ∀ w1, Below w.heap.size w w1 → SatV Tryz.prog g (e k :: cs.toList) w1 (.bool (p k))) :
    Sat Tryz.prog 104 [v, .func (.func g) #[] cs] w (IdxW p N) := by
  have hN := h.bound
  refine SatL.of 19 [4] Tryz.func104 (by kernel_rfl) (by kernel_rfl) rfl rfl rfl rfl ?_
  repeat' (first|(apply OK_seq)|(apply thenQ_n)|(apply OK_region)|(apply OKx_nilK)|(apply OK_block)|(apply blockQ_n)|(apply blockQ_s)|(apply thenQ_e)|(apply blockQ_e;exact rfl)|(apply thenQ_r)|(apply blockQ_r)|(apply OK_condT;exact rfl)|(apply OK_condF;exact rfl)|(apply OK_skip)|(apply OK_exit)|(apply OK_ret)|(apply OKx_move;(conv=>lhs;whnf)<;>exact rfl)|(apply OKx_assign;(conv=>lhs;whnf)<;>exact rfl)|(apply OKx_ldB;exact rfl;(first | exact at0|exact at1|exact at2|exact at3|exact at4|exact at5|exact at6|exact at7);exact rfl)|(apply OKx_ldR;(conv=>lhs;whnf)<;>exact rfl;(with_reducible assumption))|(apply OKx_ldI;exact rfl;(first | exact at0|exact at1|exact at2|exact at3|exact at4|exact at5|exact at6|exact at7);omega)|(apply OKx_len;exact rfl)|(apply OKx_lenR;(conv=>lhs;whnf)<;>exact rfl;(with_reducible assumption))|(apply OKx_lenR2;(conv=>lhs;whnf)<;>exact rfl;(with_reducible assumption))|(apply OKx_lenO;(conv=>lhs;whnf)<;>exact rfl;(first | exact at0|exact at1|exact at2|exact at3|exact at4|exact at5|exact at6|exact at7))|(apply OKx_lss;exact rfl;exact rfl;all_goals (intro _; try (exfalso;omega)))|(apply OKx_idxO;exact rfl;exact rfl;omega)|(apply OKx_idxR;(conv=>lhs;whnf)<;>exact rfl;(with_reducible assumption);exact rfl;omega;intro _ _)|(apply OKx_idxOz;exact rfl;exact rfl;omega;omega)|(apply OKx_idxRz;(conv=>lhs;whnf)<;>exact rfl;(with_reducible assumption);exact rfl;omega;omega;intro _ _)|(apply OKx_inc;exact rfl;exact rfl;omega)|(apply OKx_addN;exact rfl;exact rfl;omega)|(apply OKx_add;exact rfl;exact rfl;omega;omega))
  refine OK_loop1 8 [4, 5, 8, 9, 10, 11, 12, 13, 14, 15, 16, 17, 18] (fun m v L => ∃ k : Nat, k + m = N ∧ v = .int .i64 (k : Int) ∧ (∀ j, j < k → p j = false) ∧ L = []) N [] (Ent.refl _ _) ⟨0, by omega, rfl, fun j hj => absurd hj (by omega), rfl⟩ ?_
  rintro m v' L G ⟨k, hm, rfl, H, rfl⟩
  repeat' (first|(apply OK_seq)|(apply thenQ_n)|(apply OK_region)|(refine OKx_callB (f := g) rfl rfl rfl (fun w hp => hf k (by omega) w hp.below) ?_ ?_ <;> intro hq)|(apply OKx_nilK)|(apply OK_block)|(apply blockQ_n)|(apply blockQ_s)|(apply thenQ_e)|(apply blockQ_e;exact rfl)|(apply thenQ_r)|(apply blockQ_r)|(apply OK_condT;exact rfl)|(apply OK_condF;exact rfl)|(apply OK_skip)|(apply OK_exit)|(apply OK_ret)|(apply OKx_move;(conv=>lhs;whnf)<;>exact rfl)|(apply OKx_assign;(conv=>lhs;whnf)<;>exact rfl)|(apply OKx_ldB;exact rfl;(first | exact at0|exact at1|exact at2|exact at3|exact at4|exact at5|exact at6|exact at7);exact rfl)|(apply OKx_ldR;(conv=>lhs;whnf)<;>exact rfl;(with_reducible assumption))|(apply OKx_ldI;exact rfl;(first | exact at0|exact at1|exact at2|exact at3|exact at4|exact at5|exact at6|exact at7);omega)|(apply OKx_len;exact rfl)|(apply OKx_lenR;(conv=>lhs;whnf)<;>exact rfl;(with_reducible assumption))|(apply OKx_lenR2;(conv=>lhs;whnf)<;>exact rfl;(with_reducible assumption))|(apply OKx_lenO;(conv=>lhs;whnf)<;>exact rfl;(first | exact at0|exact at1|exact at2|exact at3|exact at4|exact at5|exact at6|exact at7))|(apply OKx_lss;exact rfl;exact rfl;all_goals (intro _; try (exfalso;omega)))|(apply OKx_idxO;exact rfl;exact rfl;omega)|(apply OKx_idxR;(conv=>lhs;whnf)<;>exact rfl;(with_reducible assumption);exact rfl;omega;intro _ _)|(apply OKx_idxOz;exact rfl;exact rfl;omega;omega)|(apply OKx_idxRz;(conv=>lhs;whnf)<;>exact rfl;(with_reducible assumption);exact rfl;omega;omega;intro _ _)|(apply OKx_inc;exact rfl;exact rfl;omega)|(apply OKx_addN;exact rfl;exact rfl;omega)|(apply OKx_add;exact rfl;exact rfl;omega;omega))
  · refine bodyQ_r1 (by ((conv=>lhs;whnf)<;>exact rfl)) ?_
    exact ⟨_, Ent.refl _ _, rfl, .inl ⟨k, by omega, rfl, hq, H⟩⟩
  · refine ⟨by (repeat' (first | refine agree_upd rfl ?_ | exact agree_over | exact agree_refl _ _ | refine agree_over2 rfl ?_)), m - 1, _, by omega, Ent.refl _ _, ?_⟩
    refine ⟨k + 1, by omega, rfl, fun j hj => ?_, rfl⟩
    by_cases hjk : j < k
    · exact H j hjk
    · obtain rfl : j = k := by omega
      exact hq
  · refine bodyQ_r1 (by ((conv=>lhs;whnf)<;>exact rfl)) ?_
    exact ⟨_, Ent.refl _ _, rfl, .inr ⟨rfl, fun j hj => H j (by omega)⟩⟩
theorem find_first (P : Int → Bool) : ∀ (xs : List Int) (i : Nat), i < xs.length → P (xs.getD i 0) = true → (∀ j, j < i → P (xs.getD j 0) = false) → xs.find? P = some (xs.getD i 0) := by
  intro xs
  induction xs with
  | nil => intro i h; simp at h
  | cons x xs ih =>
    intro i hi h1 h2
    cases i with
    | zero =>
      have e : P x = true := h1
      rw [List.find?_cons_of_pos e]; rfl
    | succ i =>
      have e : ¬ P x = true := by have := h2 0 (by omega); simpa using this
      rw [List.find?_cons_of_neg e]
      exact ih i (by simpa using hi) h1 (fun j hj => h2 (j + 1) (by omega))
end Go.Proofs.YtdigdmnnjbndlaaGreatDoor
namespace Go.Proofs.YtdigdmnnjbndlaaGreatDoor
open Go.RowKit
def badS (x : Int) : Bool := decide (x < -1) || decide (16 ≤ x)
def chkC (s : Stem) (st : List Int) : Int := if stCheck s ≠ 0 then 1 else if st.length ≠ s.par.length then 9 else if st.any badS = true then 2 else 0
theorem chkC_zero {s : Stem} {st : List Int} (h : chkC s st = 0) : stCheck s = 0 ∧ st.length = s.par.length ∧ ∀ x ∈ st, -1 ≤ x ∧ x < 16 := by
  unfold chkC at h
  split at h
  · omega
  split at h
  · omega
  split at h
  · omega
  · rename_i h1 h2 h3
    refine ⟨by simpa using h1, by simpa using h2, fun x hx => ?_⟩
    rw [Bool.not_eq_true, List.any_eq_false] at h3
    have := h3 x hx
    unfold badS at this
    simp at this
    omega
theorem anyN_any (xs : List Int) (P : Int → Bool) : anyN (fun j => P (xs.getD j 0)) xs.length = xs.any P := by
  cases h : xs.any P with
  | true =>
    obtain ⟨x, hx, hp⟩ := List.any_eq_true.1 h
    obtain ⟨j, hj, rfl⟩ := List.getElem_of_mem hx
    exact anyN_hit hj (by rw [getD_lt _ _ _ hj]; exact hp)
  | false =>
    rw [List.any_eq_false] at h
    exact anyN_none fun j hj => by
      have := h _ (List.getElem_mem hj)
      rw [getD_lt _ _ _ hj]
      simpa using this
set_option maxRecDepth 100000 in
set_option maxHeartbeats 4000000 in
theorem ck1_sat (x : Int) (w : World) : SatV Tryz.prog 123 [.int .i64 x] w (.bool (badS x)) := by
  refine SatL.of 9 [2] Tryz.func123 (by kernel_rfl) (by kernel_rfl) rfl rfl rfl rfl ?_
  repeat' (first|(apply OK_seq)|(apply thenQ_n)|(apply OK_region)|(apply OKx_nilK)|(apply OK_block)|(apply blockQ_n)|(apply blockQ_s)|(apply thenQ_e)|(apply blockQ_e;exact rfl)|(apply thenQ_r)|(apply blockQ_r)|(apply OK_condT;exact rfl)|(apply OK_condF;exact rfl)|(apply OK_skip)|(apply OK_exit)|(apply OK_ret)|(apply OKx_move;(conv=>lhs;whnf)<;>exact rfl)|(apply OKx_assign;(conv=>lhs;whnf)<;>exact rfl)|(apply OKx_lss;exact rfl;exact rfl;all_goals (intro _; try (exfalso;omega)))|(apply OKx_geq;exact rfl;exact rfl;all_goals (intro _; try (exfalso;omega)))|(apply OKx_pickT;exact rfl;(conv=>lhs;whnf)<;>exact rfl)|(apply OKx_pickF;exact rfl;(conv=>lhs;whnf)<;>exact rfl)|(apply OKx_guardT;exact rfl;exact rfl)|(apply OKx_guardF;exact rfl;exact rfl)|(apply OKx_guardU;exact rfl;exact rfl))
  all_goals
    refine bodyQ_r1 (by ((conv=>lhs;whnf)<;>exact rfl)) ?_
    refine ⟨_, Ent.nil, bool_eq ?_, rfl⟩
    unfold badS
    first
      | (rw [decide_eq_true (p := x < -1) (by omega)]; rfl)
      | (rw [decide_eq_false (p := x < -1) (by omega), decide_eq_true (p := 16 ≤ x) (by omega)]; rfl)
      | (rw [decide_eq_false (p := x < -1) (by omega), decide_eq_false (p := 16 ≤ x) (by omega)]; rfl)
set_option maxRecDepth 100000 in
set_option maxHeartbeats 4000000 in
theorem Chk_sat (v sv : Value) (s : Stem) (st : List Int) (w : World) (h : Stm w v s) (hs : Ints w sv st) : SatV Tryz.prog 82 [v, sv] w (.int .i64 (chkC s st)) := by
  have hst := h
  obtain ⟨nv, ev, pv, rfl, hS, _, hP⟩ := h
  obtain ⟨fv, hpv, hrow⟩ := hP.rows
  have hsv := hs.sl
  have hpb := hpv.bound
  have hsb := hsv.bound
  refine SatL.of 19 [4] Tryz.func82 (by kernel_rfl) (by kernel_rfl) rfl rfl rfl rfl ?_
  repeat' (first|(apply OK_seq)|(apply thenQ_n)|(apply OK_region)|(apply OKx_gc 23;exact rfl; refine OKx_callV (f := 23) rfl rfl rfl (fun w1 hp => stCheck_sat _ s w1 (hst.below hp.below)) ?_)|(apply OKx_gc 66;exact rfl; refine OKx_callB (f := 66) (b := st.any badS) rfl rfl rfl (fun w1 hp => by rw [← anyN_any]; exact containsF_int_sat _ _ _ _ _ _ w1 (hsv.below hp.below) (fun j hj w2 hb2 => ck1_sat _ w2)) ?_ ?_ <;> intro hq)|(apply OKx_nilK)|(apply OK_block)|(apply blockQ_n)|(apply blockQ_s)|(apply thenQ_e)|(apply blockQ_e;exact rfl)|(apply thenQ_r)|(apply blockQ_r)|(apply OK_condT;exact rfl)|(apply OK_condF;exact rfl)|(apply OK_skip)|(apply OK_exit)|(apply OK_ret)|(apply OKx_move;(conv=>lhs;whnf)<;>exact rfl)|(apply OKx_assign;(conv=>lhs;whnf)<;>exact rfl)|(apply OKx_ldB;exact rfl;(first | exact at0|exact at1|exact at2|exact at3|exact at4|exact at5|exact at6|exact at7);exact rfl)|(apply OKx_ldR;(conv=>lhs;whnf)<;>exact rfl;(with_reducible assumption))|(apply OKx_len;exact rfl)|(apply OKx_lenR;(conv=>lhs;whnf)<;>exact rfl;(with_reducible assumption))|(apply OKx_lenR2;(conv=>lhs;whnf)<;>exact rfl;(with_reducible assumption))|(apply OKx_lenO;(conv=>lhs;whnf)<;>exact rfl;(first | exact at0|exact at1|exact at2|exact at3|exact at4|exact at5|exact at6|exact at7))|(apply OKx_neq;exact rfl;exact rfl;all_goals (intro _; try (exfalso;omega)))|(apply OKx_fldO;exact rfl;exact rfl)|(apply OKx_fldR;(conv=>lhs;whnf)<;>exact rfl;(with_reducible assumption); decide;intro _ _)|(apply OKx_boxA;exact rfl;intro _)|(apply OKx_ldBA;exact rfl;(first | exact at0|exact at1|exact at2|exact at3|exact at4|exact at5|exact at6|exact at7);exact rfl)|(apply OKx_ldRA;(conv=>lhs;whnf)<;>exact rfl;(with_reducible assumption)))
  all_goals
    refine bodyQ_r1 (by ((conv=>lhs;whnf)<;>exact rfl)) ?_
    refine ⟨_, Ent.nil, int_eq ?_, rfl⟩
    unfold chkC
    first
      | rw [if_pos (by omega)]
      | rw [if_neg (by omega), if_pos (by omega)]
      | rw [if_neg (by omega), if_neg (by omega), if_pos hq]
      | rw [if_neg (by omega), if_neg (by omega), if_neg (by rw [hq]; simp)]
def pos0 (st : List Int) (k : Nat) : List Int := (st.take k).filter (fun x => decide (0 ≤ x))
theorem pos0_step (st : List Int) (k : Nat) (h : k < st.length) : pos0 st (k + 1) = pos0 st k ++ if 0 ≤ st.getD k 0 then [st.getD k 0] else [] := by
  unfold pos0
  rw [List.take_succ_eq_append_getElem h, List.filter_append, getD_lt _ _ _ h]
  congr 1
  by_cases h0 : 0 ≤ st[k]
  · simp [h0]
  · simp [h0]
theorem pos0_mem (st : List Int) (k : Nat) (hk : st.length ≤ k) (x : Int) : x ∈ pos0 st k ↔ x ∈ st ∧ 0 ≤ x := by
  unfold pos0
  rw [List.take_of_length_le hk, List.mem_filter]
  simp
theorem occ_nil (st : List Int) (k : Nat) (hk : st.length ≤ k) (h : (pos0 st k).length = 0) : occ st = [0] := by
  unfold occ
  rw [if_pos]
  rw [List.eq_nil_iff_forall_not_mem]
  intro x hx
  have h1 := (srtK_mem _ _ _).1 hx
  have h2 := (pos0_mem st k hk x).2 ⟨h1.1, h1.2.1⟩
  rw [List.eq_nil_of_length_eq_zero h] at h2
  simp at h2
theorem occ_cons (st : List Int) (k : Nat) (hk : st.length ≤ k) (hr : ∀ x ∈ st, x < 16) (h : (pos0 st k).length ≠ 0) : Lib.compact (srtL (pos0 st k)) = occ st := by
  have e : Lib.compact (srtL (pos0 st k)) = srtK st 16 := by
    refine asc_ext _ _ (compact_asc _ (srtL_le _)) (srtK_asc _ _) fun x => ?_
    rw [compact_mem, srtL_mem, pos0_mem st k hk, srtK_mem]
    constructor
    · rintro ⟨h1, h2⟩; exact ⟨h1, h2, hr x h1⟩
    · rintro ⟨h1, h2, _⟩; exact ⟨h1, h2⟩
  have hne : srtK st 16 ≠ [] := by
    rw [← e]
    intro h0
    have : pos0 st k ≠ [] := fun h1 => h (by rw [h1]; rfl)
    obtain ⟨x, hx⟩ := List.exists_mem_of_ne_nil _ this
    have h2 := (compact_mem (srtL (pos0 st k)) x).2 ((srtL_mem _ _).2 hx)
    rw [h0] at h2
    simp at h2
  unfold occ
  rw [if_neg hne]
  exact e
def OccR (st : List Int) (u : Value) (L : List Res) : Prop := ∃ g n c, n = (occ st).length ∧ u = .slice (some ⟨g, 0, none⟩) n c ∧ L = [.row 3 1 u n (ints (occ st))]
set_option maxRecDepth 100000 in
set_option maxHeartbeats 4000000 in
theorem occur_sat (v : Value) (st : List Int) (w : World) (h : Ints w v st) (hr : ∀ x ∈ st, x < 16) (hl : st.length ≤ 1000) : Sat Tryz.prog 126 [v] w (OccR st) := by
  have hv := h.sl
  refine SatL.of 27 [2] Tryz.func126 (by kernel_rfl) (by kernel_rfl) rfl rfl rfl rfl ?_
  repeat' (first|(apply OK_seq)|(apply thenQ_n)|(apply OK_region)|(apply OKx_nilK)|(apply OK_block)|(apply blockQ_n)|(apply blockQ_s)|(apply thenQ_e)|(apply blockQ_e;exact rfl)|(apply thenQ_r)|(apply blockQ_r)|(apply OK_condT;exact rfl)|(apply OK_condF;exact rfl)|(apply OK_skip)|(apply OK_exit)|(apply OK_ret)|(apply OKx_move;(conv=>lhs;whnf)<;>exact rfl)|(apply OKx_assign;(conv=>lhs;whnf)<;>exact rfl)|(apply OKx_ldB;exact rfl;(first | exact at0|exact at1|exact at2|exact at3|exact at4|exact at5|exact at6|exact at7);exact rfl)|(apply OKx_ldR;(conv=>lhs;whnf)<;>exact rfl;(with_reducible assumption))|(apply OKx_ldI;exact rfl;(first | exact at0|exact at1|exact at2|exact at3|exact at4|exact at5|exact at6|exact at7);omega)|(apply OKx_len;exact rfl)|(apply OKx_lenR;(conv=>lhs;whnf)<;>exact rfl;(with_reducible assumption))|(apply OKx_lenR2;(conv=>lhs;whnf)<;>exact rfl;(with_reducible assumption))|(apply OKx_lenO;(conv=>lhs;whnf)<;>exact rfl;(first | exact at0|exact at1|exact at2|exact at3|exact at4|exact at5|exact at6|exact at7))|(apply OKx_lss;exact rfl;exact rfl;all_goals (intro _; try (exfalso;omega)))|(apply OKx_geq;exact rfl;exact rfl;all_goals (intro _; try (exfalso;omega)))|(apply OKx_eql;exact rfl;exact rfl;all_goals (intro _; try (exfalso;omega)))|(apply OKx_idxO;exact rfl;exact rfl;omega)|(apply OKx_idxR;(conv=>lhs;whnf)<;>exact rfl;(with_reducible assumption);exact rfl;omega;intro _ _)|(apply OKx_idxOz;exact rfl;exact rfl;omega;omega)|(apply OKx_idxRz;(conv=>lhs;whnf)<;>exact rfl;(with_reducible assumption);exact rfl;omega;omega;intro _ _)|(apply OKx_inc;exact rfl;exact rfl;omega)|(apply OKx_addN;exact rfl;exact rfl;omega)|(apply OKx_add;exact rfl;exact rfl;omega;omega)|(apply OKx_slit1;(conv=>lhs;whnf)<;>exact rfl;exact rfl;intro _))
  refine OK_loop2 3 8 [3, 5, 8, 9, 10, 11, 12, 13, 14, 15, 16, 17, 18] (fun m u v L => ∃ (k n : Nat) (a : Option Addr) (c : Nat), k + m = st.length ∧ n = (pos0 st k).length ∧ n ≤ k ∧ u = .slice a n c ∧ (n = 0 ∨ ∃ g, a = some ⟨g, 0, none⟩) ∧ v = .int .i64 (k : Int) ∧ L = [.row 3 1 (.slice a n c) n (ints (pos0 st k))]) st.length _ (Ent.mk fun w1 hp => hp.nil 3 1) ⟨0, 0, none, 0, by omega, rfl, by omega, rfl, .inl rfl, rfl, rfl⟩ ?_
  rintro m u v L G ⟨k, n, a, c, hm, hn, hnk, rfl, ha, rfl, rfl⟩
  by_cases hk : k < st.length
  · have hs := pos0_step st k hk
    generalize hys : pos0 st k = ys at *
    repeat' (first|(apply OK_seq)|(apply thenQ_n)|(apply OK_region)|(apply OKx_gb; refine OKx_appI 1 0 rfl rfl rfl rfl (by omega) (by omega) ?_; intro g2 c2)|(apply OKx_nilK)|(apply OK_block)|(apply blockQ_n)|(apply blockQ_s)|(apply thenQ_e)|(apply blockQ_e;exact rfl)|(apply thenQ_r)|(apply blockQ_r)|(apply OK_condT;exact rfl)|(apply OK_condF;exact rfl)|(apply OK_skip)|(apply OK_exit)|(apply OK_ret)|(apply OKx_move;(conv=>lhs;whnf)<;>exact rfl)|(apply OKx_assign;(conv=>lhs;whnf)<;>exact rfl)|(apply OKx_ldB;exact rfl;(first | exact at0|exact at1|exact at2|exact at3|exact at4|exact at5|exact at6|exact at7);exact rfl)|(apply OKx_ldR;(conv=>lhs;whnf)<;>exact rfl;(with_reducible assumption))|(apply OKx_ldI;exact rfl;(first | exact at0|exact at1|exact at2|exact at3|exact at4|exact at5|exact at6|exact at7);omega)|(apply OKx_len;exact rfl)|(apply OKx_lenR;(conv=>lhs;whnf)<;>exact rfl;(with_reducible assumption))|(apply OKx_lenR2;(conv=>lhs;whnf)<;>exact rfl;(with_reducible assumption))|(apply OKx_lenO;(conv=>lhs;whnf)<;>exact rfl;(first | exact at0|exact at1|exact at2|exact at3|exact at4|exact at5|exact at6|exact at7))|(apply OKx_lss;exact rfl;exact rfl;all_goals (intro _; try (exfalso;omega)))|(apply OKx_geq;exact rfl;exact rfl;all_goals (intro _; try (exfalso;omega)))|(apply OKx_eql;exact rfl;exact rfl;all_goals (intro _; try (exfalso;omega)))|(apply OKx_idxO;exact rfl;exact rfl;omega)|(apply OKx_idxR;(conv=>lhs;whnf)<;>exact rfl;(with_reducible assumption);exact rfl;omega;intro _ _)|(apply OKx_idxOz;exact rfl;exact rfl;omega;omega)|(apply OKx_idxRz;(conv=>lhs;whnf)<;>exact rfl;(with_reducible assumption);exact rfl;omega;omega;intro _ _)|(apply OKx_inc;exact rfl;exact rfl;omega)|(apply OKx_addN;exact rfl;exact rfl;omega)|(apply OKx_add;exact rfl;exact rfl;omega;omega)|(apply OKx_slit1;(conv=>lhs;whnf)<;>exact rfl;exact rfl;intro _))
    · rw [if_pos (by assumption)] at hs
      refine ⟨by (repeat' (first | refine agree_upd rfl ?_ | exact agree_over | exact agree_refl _ _ | refine agree_over2 rfl ?_)), m - 1, _, by omega, Ent.pick [1] rfl, ?_⟩
      exact ⟨k + 1, n + 1, some ⟨g2, 0, none⟩, c2, by omega, by rw [hs, List.length_append, hn]; rfl, by omega, rfl, .inr ⟨g2, rfl⟩, rfl, by rw [hs]; rfl⟩
    · rw [if_neg (by omega), List.append_nil] at hs
      refine ⟨by (repeat' (first | refine agree_upd rfl ?_ | exact agree_over | exact agree_refl _ _ | refine agree_over2 rfl ?_)), m - 1, _, by omega, Ent.refl _ _, ?_⟩
      exact ⟨k + 1, n, a, c, by omega, by rw [hs]; exact hn, by omega, rfl, ha, rfl, by rw [hs]⟩
  · have hkl : st.length ≤ k := by omega
    by_cases hn0 : n = 0
    · subst hn0
      repeat' (first|(apply OK_seq)|(apply thenQ_n)|(apply OK_region)|(apply OKx_nilK)|(apply OK_block)|(apply blockQ_n)|(apply blockQ_s)|(apply thenQ_e)|(apply blockQ_e;exact rfl)|(apply thenQ_r)|(apply blockQ_r)|(apply OK_condT;exact rfl)|(apply OK_condF;exact rfl)|(apply OK_skip)|(apply OK_exit)|(apply OK_ret)|(apply OKx_move;(conv=>lhs;whnf)<;>exact rfl)|(apply OKx_assign;(conv=>lhs;whnf)<;>exact rfl)|(apply OKx_ldB;exact rfl;(first | exact at0|exact at1|exact at2|exact at3|exact at4|exact at5|exact at6|exact at7);exact rfl)|(apply OKx_ldR;(conv=>lhs;whnf)<;>exact rfl;(with_reducible assumption))|(apply OKx_ldI;exact rfl;(first | exact at0|exact at1|exact at2|exact at3|exact at4|exact at5|exact at6|exact at7);omega)|(apply OKx_len;exact rfl)|(apply OKx_lenR;(conv=>lhs;whnf)<;>exact rfl;(with_reducible assumption))|(apply OKx_lenR2;(conv=>lhs;whnf)<;>exact rfl;(with_reducible assumption))|(apply OKx_lenO;(conv=>lhs;whnf)<;>exact rfl;(first | exact at0|exact at1|exact at2|exact at3|exact at4|exact at5|exact at6|exact at7))|(apply OKx_lss;exact rfl;exact rfl;all_goals (intro _; try (exfalso;omega)))|(apply OKx_geq;exact rfl;exact rfl;all_goals (intro _; try (exfalso;omega)))|(apply OKx_eql;exact rfl;exact rfl;all_goals (intro _; try (exfalso;omega)))|(apply OKx_idxO;exact rfl;exact rfl;omega)|(apply OKx_idxR;(conv=>lhs;whnf)<;>exact rfl;(with_reducible assumption);exact rfl;omega;intro _ _)|(apply OKx_idxOz;exact rfl;exact rfl;omega;omega)|(apply OKx_idxRz;(conv=>lhs;whnf)<;>exact rfl;(with_reducible assumption);exact rfl;omega;omega;intro _ _)|(apply OKx_inc;exact rfl;exact rfl;omega)|(apply OKx_addN;exact rfl;exact rfl;omega)|(apply OKx_add;exact rfl;exact rfl;omega;omega)|(apply OKx_slit1;(conv=>lhs;whnf)<;>exact rfl;exact rfl;intro _))
      refine bodyQ_r1 (by ((conv=>lhs;whnf)<;>exact rfl)) ?_
      have ho := occ_nil st k hkl hn.symm
      exact ⟨_, Ent.pick [0] rfl, _, 1, _, by rw [ho]; rfl, rfl, by rw [ho]; rfl⟩
    · obtain ⟨g, rfl⟩ := ha.resolve_left hn0
      have ho := occ_cons st k hkl hr (by omega)
      have hsl : (srtL (pos0 st k)).length = n := by rw [hn]; exact List.length_mergeSort _
      repeat' (first|(apply OK_seq)|(apply thenQ_n)|(apply OK_region)|(apply OKx_gc 39;exact rfl; refine OKx_callL (f := 39) rfl rfl (sort_int_sat g c n (pos0 st k) _ _ 0 hn.symm rfl (by omega)) ?_; rintro _ _ ⟨rfl, rfl⟩)|(apply OKx_gc 97;exact rfl; refine OKx_callL (f := 97) rfl rfl (compact_int_sat g c n (srtL (pos0 st k)) _ _ 0 hsl rfl (by omega)) ?_; rintro _ _ ⟨kk, hkk, rfl, rfl⟩)|(apply OKx_nilK)|(apply OK_block)|(apply blockQ_n)|(apply blockQ_s)|(apply thenQ_e)|(apply blockQ_e;exact rfl)|(apply thenQ_r)|(apply blockQ_r)|(apply OK_condT;exact rfl)|(apply OK_condF;exact rfl)|(apply OK_skip)|(apply OK_exit)|(apply OK_ret)|(apply OKx_move;(conv=>lhs;whnf)<;>exact rfl)|(apply OKx_assign;(conv=>lhs;whnf)<;>exact rfl)|(apply OKx_ldB;exact rfl;(first | exact at0|exact at1|exact at2|exact at3|exact at4|exact at5|exact at6|exact at7);exact rfl)|(apply OKx_ldR;(conv=>lhs;whnf)<;>exact rfl;(with_reducible assumption))|(apply OKx_ldI;exact rfl;(first | exact at0|exact at1|exact at2|exact at3|exact at4|exact at5|exact at6|exact at7);omega)|(apply OKx_len;exact rfl)|(apply OKx_lenR;(conv=>lhs;whnf)<;>exact rfl;(with_reducible assumption))|(apply OKx_lenR2;(conv=>lhs;whnf)<;>exact rfl;(with_reducible assumption))|(apply OKx_lenO;(conv=>lhs;whnf)<;>exact rfl;(first | exact at0|exact at1|exact at2|exact at3|exact at4|exact at5|exact at6|exact at7))|(apply OKx_lss;exact rfl;exact rfl;all_goals (intro _; try (exfalso;omega)))|(apply OKx_geq;exact rfl;exact rfl;all_goals (intro _; try (exfalso;omega)))|(apply OKx_eql;exact rfl;exact rfl;all_goals (intro _; try (exfalso;omega)))|(apply OKx_idxO;exact rfl;exact rfl;omega)|(apply OKx_idxR;(conv=>lhs;whnf)<;>exact rfl;(with_reducible assumption);exact rfl;omega;intro _ _)|(apply OKx_idxOz;exact rfl;exact rfl;omega;omega)|(apply OKx_idxRz;(conv=>lhs;whnf)<;>exact rfl;(with_reducible assumption);exact rfl;omega;omega;intro _ _)|(apply OKx_inc;exact rfl;exact rfl;omega)|(apply OKx_addN;exact rfl;exact rfl;omega)|(apply OKx_add;exact rfl;exact rfl;omega;omega)|(apply OKx_slit1;(conv=>lhs;whnf)<;>exact rfl;exact rfl;intro _))
      refine bodyQ_r1 (by ((conv=>lhs;whnf)<;>exact rfl)) ?_
      exact ⟨_, Ent.refl _ _, g, kk, c, by rw [hkk, ho], rfl, by rw [ho]; rfl⟩
set_option maxRecDepth 100000 in
set_option maxHeartbeats 4000000 in
theorem tooMany_sat (v : Value) (st : List Int) (w : World) (h : Ints w v st) (hr : ∀ x ∈ st, x < 16) (hl : st.length ≤ 1000) : SatV Tryz.prog 88 [v] w (.bool (many st)) := by
  have hv := h.sl
  have ho16 := occ_le st
  have ho0 := occ_pos st
  refine SatL.of 24 [2] Tryz.func88 (by kernel_rfl) (by kernel_rfl) rfl rfl rfl rfl ?_
  repeat' (first|(apply OK_seq)|(apply thenQ_n)|(apply OK_region)|(apply OKx_gc 126;exact rfl; refine OKx_call (f := 126) rfl rfl (fun w1 hp => occur_sat _ st w1 (h.below hp.below) hr hl) ?_; rintro _ _ ⟨g, n, c, hn, rfl, rfl⟩)|(apply OKx_nilK)|(apply OK_block)|(apply blockQ_n)|(apply blockQ_s)|(apply thenQ_e)|(apply blockQ_e;exact rfl)|(apply thenQ_r)|(apply blockQ_r)|(apply OK_condT;exact rfl)|(apply OK_condF;exact rfl)|(apply OK_skip)|(apply OK_exit)|(apply OK_ret)|(apply OKx_move;(conv=>lhs;whnf)<;>exact rfl)|(apply OKx_assign;(conv=>lhs;whnf)<;>exact rfl)|(apply OKx_ldB;exact rfl;(first | exact at0|exact at1|exact at2|exact at3|exact at4|exact at5|exact at6|exact at7);exact rfl)|(apply OKx_ldR;(conv=>lhs;whnf)<;>exact rfl;(with_reducible assumption))|(apply OKx_ldI;exact rfl;(first | exact at0|exact at1|exact at2|exact at3|exact at4|exact at5|exact at6|exact at7);omega)|(apply OKx_len;exact rfl)|(apply OKx_lenR;(conv=>lhs;whnf)<;>exact rfl;(with_reducible assumption))|(apply OKx_lenR2;(conv=>lhs;whnf)<;>exact rfl;(with_reducible assumption))|(apply OKx_lenO;(conv=>lhs;whnf)<;>exact rfl;(first | exact at0|exact at1|exact at2|exact at3|exact at4|exact at5|exact at6|exact at7))|(apply OKx_lss;exact rfl;exact rfl;all_goals (intro _; try (exfalso;omega)))|(apply OKx_gtr;exact rfl;exact rfl;all_goals (intro _; try (exfalso;omega)))|(apply OKx_geq;exact rfl;exact rfl;all_goals (intro _; try (exfalso;omega)))|(apply OKx_idxO;exact rfl;exact rfl;omega)|(apply OKx_idxR;(conv=>lhs;whnf)<;>exact rfl;(with_reducible assumption);exact rfl;omega;intro _ _)|(apply OKx_idxOz;exact rfl;exact rfl;omega;omega)|(apply OKx_idxRz;(conv=>lhs;whnf)<;>exact rfl;(with_reducible assumption);exact rfl;omega;omega;intro _ _)|(apply OKx_inc;exact rfl;exact rfl;omega)|(apply OKx_addN;exact rfl;exact rfl;omega)|(apply OKx_add;exact rfl;exact rfl;omega;omega))
  refine OK_loop2 3 12 [2, 3, 6, 12, 13, 14, 15, 16, 17, 18, 19, 20, 21, 22, 23] (fun m u v L => ∃ (k q : Nat), k + m = st.length ∧ q = (occ st).length ^ unk (st.take k) ∧ q ≤ 65536 ∧ u = .int .i64 (q : Int) ∧ v = .int .i64 (k : Int) ∧ L = []) st.length _ Ent.nil ⟨0, 1, by omega, by simp [unk], by omega, rfl, rfl, rfl⟩ ?_
  rintro m u v L G ⟨k, q, hm, hq, hq1, rfl, rfl, rfl⟩
  have hmul : 0 ≤ (q : Int) * (n : Int) ∧ (q : Int) * (n : Int) ≤ 65536 * 16 := ⟨Int.mul_nonneg (by omega) (by omega), Int.mul_le_mul (by omega) (by omega) (by omega) (by omega)⟩
  have hstep := unk_step st k
  repeat' (first|(apply OK_seq)|(apply thenQ_n)|(apply OK_region)|(apply OKx_gn; refine OKx_mul rfl rfl (by omega) (by omega) ?_)|(apply OKx_nilK)|(apply OK_block)|(apply blockQ_n)|(apply blockQ_s)|(apply thenQ_e)|(apply blockQ_e;exact rfl)|(apply thenQ_r)|(apply blockQ_r)|(apply OK_condT;exact rfl)|(apply OK_condF;exact rfl)|(apply OK_skip)|(apply OK_exit)|(apply OK_ret)|(apply OKx_move;(conv=>lhs;whnf)<;>exact rfl)|(apply OKx_assign;(conv=>lhs;whnf)<;>exact rfl)|(apply OKx_ldB;exact rfl;(first | exact at0|exact at1|exact at2|exact at3|exact at4|exact at5|exact at6|exact at7);exact rfl)|(apply OKx_ldR;(conv=>lhs;whnf)<;>exact rfl;(with_reducible assumption))|(apply OKx_ldI;exact rfl;(first | exact at0|exact at1|exact at2|exact at3|exact at4|exact at5|exact at6|exact at7);omega)|(apply OKx_len;exact rfl)|(apply OKx_lenR;(conv=>lhs;whnf)<;>exact rfl;(with_reducible assumption))|(apply OKx_lenR2;(conv=>lhs;whnf)<;>exact rfl;(with_reducible assumption))|(apply OKx_lenO;(conv=>lhs;whnf)<;>exact rfl;(first | exact at0|exact at1|exact at2|exact at3|exact at4|exact at5|exact at6|exact at7))|(apply OKx_lss;exact rfl;exact rfl;all_goals (intro _; try (exfalso;omega)))|(apply OKx_gtr;exact rfl;exact rfl;all_goals (intro _; try (exfalso;omega)))|(apply OKx_geq;exact rfl;exact rfl;all_goals (intro _; try (exfalso;omega)))|(apply OKx_idxO;exact rfl;exact rfl;omega)|(apply OKx_idxR;(conv=>lhs;whnf)<;>exact rfl;(with_reducible assumption);exact rfl;omega;intro _ _)|(apply OKx_idxOz;exact rfl;exact rfl;omega;omega)|(apply OKx_idxRz;(conv=>lhs;whnf)<;>exact rfl;(with_reducible assumption);exact rfl;omega;omega;intro _ _)|(apply OKx_inc;exact rfl;exact rfl;omega)|(apply OKx_addN;exact rfl;exact rfl;omega)|(apply OKx_add;exact rfl;exact rfl;omega;omega))
  · refine ⟨by (repeat' (first | refine agree_upd rfl ?_ | exact agree_over | exact agree_refl _ _ | refine agree_over2 rfl ?_)), m - 1, _, by omega, Ent.refl _ _, ?_⟩
    refine ⟨k + 1, q, by omega, ?_, hq1, rfl, rfl, rfl⟩
    rw [hstep (by omega), if_neg (by omega)]; exact hq
  · have hx : (occ st).length ^ unk (st.take (k + 1)) = q * n := by
      rw [hstep (by omega), if_pos (by omega), Nat.pow_succ, ← hq, ← hn]
    refine bodyQ_r1 (by ((conv=>lhs;whnf)<;>exact rfl)) ?_
    refine ⟨_, Ent.nil, bool_eq (many_hit st (k + 1) ?_).symm, rfl⟩
    rw [hx]
    have : ((q * n : Nat) : Int) = (q : Int) * (n : Int) := by simp
    omega
  · have hx : (occ st).length ^ unk (st.take (k + 1)) = q * n := by
      rw [hstep (by omega), if_pos (by omega), Nat.pow_succ, ← hq, ← hn]
    have e : ((q * n : Nat) : Int) = (q : Int) * (n : Int) := by simp
    refine ⟨by (repeat' (first | refine agree_upd rfl ?_ | exact agree_over | exact agree_refl _ _ | refine agree_over2 rfl ?_)), m - 1, _, by omega, Ent.refl _ _, ?_⟩
    exact ⟨k + 1, q * n, by omega, hx.symm, by omega, int_eq e.symm, rfl, rfl⟩
  · refine bodyQ_r1 (by ((conv=>lhs;whnf)<;>exact rfl)) ?_
    refine ⟨_, Ent.nil, bool_eq (many_end st ?_).symm, rfl⟩
    rw [List.take_of_length_le (by omega)] at hq
    omega
end Go.Proofs.YtdigdmnnjbndlaaGreatDoor
