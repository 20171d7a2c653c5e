/-
  Part 9 of the proof: Spl, Pf36, Pw36, Stl, Mx. No statement of the seat is proved here.
-/
import Derived.Test.YtdigdmnnjbndlaaGreatDoorMHTs368
import Derived.Lib.IndexBytes
import Derived.Lib.IndexLaws
import Derived.Lib.CutLaws
import Derived.Lib.SplitLaws
import Derived.Lib.ItoaNum
import Derived.StringKeys
namespace Go.Proofs.YtdigdmnnjbndlaaGreatDoor
open Go.RowKit
def spl (c : UInt8) : List UInt8 → List (List UInt8)
  | [] => [[]]
  | b :: r => if b = c then [] :: spl c r else ((b :: (spl c r).headD []) :: (spl c r).tail)
theorem spl_cons (c b : UInt8) (r : List UInt8) : spl c (b :: r) = if b = c then [] :: spl c r else ((b :: (spl c r).headD []) :: (spl c r).tail) := rfl
def bOf (l : List UInt8) : ByteArray := ⟨l.toArray⟩
theorem bOf_data (s : ByteArray) : bOf s.data.toList = s := by
  unfold bOf
  cases s
  rfl
theorem data_bOf (l : List UInt8) : (bOf l).data.toList = l := rfl
theorem bOf_size (l : List UInt8) : (bOf l).size = l.length := rfl
theorem bOf_inj {a b : List UInt8} (h : bOf a = bOf b) : a = b := by
  have := congrArg (fun s : ByteArray => s.data.toList) h
  exact this
theorem spl_ne (c : UInt8) (l : List UInt8) : spl c l ≠ [] := by
  cases l with
  | nil => simp [spl]
  | cons b r =>
    unfold spl
    split <;> simp
theorem spl_miss (c : UInt8) : ∀ l : List UInt8, c ∉ l → spl c l = [l]
  | [], _ => rfl
  | b :: r, h => by
    rw [List.mem_cons, not_or] at h
    unfold spl
    rw [if_neg (fun e => h.1 e.symm), spl_miss c r h.2]
    rfl
theorem spl_hit (c : UInt8) (b : List UInt8) : ∀ a : List UInt8, c ∉ a → spl c (a ++ c :: b) = a :: spl c b
  | [], _ => by
    rw [List.nil_append]
    show (if c = c then _ else _) = _
    rw [if_pos rfl]
  | x :: a, h => by
    rw [List.mem_cons, not_or] at h
    rw [List.cons_append, spl_cons, if_neg (fun e => h.1 e.symm), spl_hit c b a h.2]
    rfl
theorem spl_len_le (c : UInt8) : ∀ l : List UInt8, (spl c l).length ≤ l.length + 1
  | [] => Nat.le_refl _
  | b :: r => by
    have ih := spl_len_le c r
    unfold spl
    split
    · simp only [List.length_cons];omega
    · have := spl_ne c r
      cases h : spl c r with
      | nil => exact absurd h this
      | cons y t =>
        rw [h] at ih
        simp only [List.length_cons, List.tail_cons] at *
        omega
theorem spl_size_le (c : UInt8) : ∀ l : List UInt8, ∀ x ∈ spl c l, x.length ≤ l.length
  | [], x, hx => by
    simp only [spl, List.mem_singleton] at hx
    subst hx
    exact Nat.le_refl _
  | b :: r, x, hx => by
    have ih := spl_size_le c r
    unfold spl at hx
    split at hx
    · rcases List.mem_cons.1 hx with h | h
      · subst h; simp
      · have := ih x h; simp only [List.length_cons];omega
    · rcases List.mem_cons.1 hx with h | h
      · subst h
        cases h : spl c r with
        | nil => simp
        | cons y t =>
          have := ih y (by rw [h]; exact List.mem_cons_self)
          simp only [List.headD_cons, List.length_cons];omega
      · have := ih x (List.mem_of_mem_tail h); simp only [List.length_cons];omega
theorem index1_miss {s : List UInt8} {c : UInt8} (h : Lib.index s [c] = -1) : c ∉ s := by
  rw [Lib.index_one] at h
  intro hm
  obtain ⟨k, hk, e⟩ := List.getElem_of_mem hm
  exact Lib.indexByte_none h k (by rw [List.getElem?_eq_getElem hk, e])
theorem index1_hit {s : List UInt8} {c : UInt8} {i : Nat} (h : Lib.index s [c] = i) : s = s.take i ++ c :: s.drop (i + 1) ∧ c ∉ s.take i ∧ i < s.length := by
  rw [Lib.index_one] at h
  obtain ⟨h1, h2⟩ := Lib.indexByte_some h
  obtain ⟨hi, e⟩ := List.getElem?_eq_some_iff.1 h1
  refine ⟨?_, ?_, hi⟩
  · conv => lhs; rw [← List.take_append_drop i s]
    congr 1
    rw [List.drop_eq_getElem_cons hi, e]
  · intro hm
    obtain ⟨k, hk, e2⟩ := List.getElem_of_mem hm
    rw [List.length_take] at hk
    rw [List.getElem_take] at e2
    exact h2 k (by omega) (by rw [List.getElem?_eq_getElem (by omega), e2])
theorem index1_cases (s : List UInt8) (c : UInt8) : (Lib.index s [c] = -1 ∧ c ∉ s) ∨ ∃ i : Nat, Lib.index s [c] = i ∧ s = s.take i ++ c :: s.drop (i + 1) ∧ c ∉ s.take i ∧ i < s.length := by
  have hge := Lib.index_ge s [c]
  by_cases h : Lib.index s [c] = -1
  · exact .inl ⟨h, index1_miss h⟩
  · have h1 : Lib.index s [c] = ((Lib.index s [c]).toNat : Nat) := by omega
    exact .inr ⟨_, h1, index1_hit h1⟩
theorem cut1 (s : List UInt8) (c : UInt8) : (c ∉ s ∧ Lib.cut s [c] = (s, [], false)) ∨ ∃ a b, s = a ++ c :: b ∧ c ∉ a ∧ Lib.cut s [c] = (a, b, true) := by
  rcases index1_cases s c with ⟨h, hm⟩ | ⟨i, h, e, hm, _⟩
  · refine .inl ⟨hm, ?_⟩
    unfold Lib.cut
    rw [h, if_neg (by omega)]
  · refine .inr ⟨s.take i, s.drop (i + 1), e, hm, ?_⟩
    unfold Lib.cut
    rw [h, if_pos (by omega)]
    simp
theorem spl_splitB (c : UInt8) : ∀ (k : Nat) (s : ByteArray), Lib.countB s ⟨#[c]⟩ = k → Lib.splitB ⟨#[c]⟩ 0 k s = (spl c s.data.toList).map bOf
  | 0, s, h => by
    rw [Lib.splitB_zero]
    have hm : c ∉ s.data.toList := by
      have : Lib.count s.data.toList [c] = 0 := h
      rw [Lib.count_one] at this
      exact List.count_eq_zero.1 this
    rw [spl_miss c _ hm]
    simp [bOf_data]
  | k + 1, s, h => by
    rcases index1_cases s.data.toList c with ⟨hi, hm⟩ | ⟨i, hi, e, hm, hlt⟩
    · have : Lib.countB s ⟨#[c]⟩ = 0 := Lib.countB_miss s _ hi
      omega
    · have hB : Lib.indexB s ⟨#[c]⟩ = i := hi
      have hc := Lib.countB_hit s ⟨#[c]⟩ i (Nat.le_refl 1) hB
      have ih := spl_splitB c k (s.extract (i + 1) s.size) (by have : (⟨#[c]⟩ : ByteArray).size = 1 := rfl; rw [this] at hc;omega)
      unfold Lib.splitB
      rw [hB, if_neg (by simp)]
      have e1 : (s.extract (i + 1) s.size).data.toList = s.data.toList.drop (i + 1) := by
        rw [ByteArray.data_extract, Array.toList_extract, List.extract_eq_take_drop, List.take_of_length_le]
        rw [List.length_drop, Array.length_toList]
        exact Nat.le_refl _
      have e2 : s.extract 0 i = bOf (s.data.toList.take i) := by
        rw [← bOf_data (s.extract 0 i)]
        congr 1
        rw [ByteArray.data_extract]
        simp
      have hsz : (⟨#[c]⟩ : ByteArray).size = 1 := rfl
      rw [Int.toNat_natCast, Nat.add_zero, hsz, ih, e1, e2]
      conv => rhs; rw [e, spl_hit c _ _ hm]
      rfl
theorem spl_count (c : UInt8) (s : ByteArray) : (spl c s.data.toList).length = Lib.countB s ⟨#[c]⟩ + 1 := by
  have h1 := Lib.splitB_all ⟨#[c]⟩ (Nat.le_refl 1) 0 _ s rfl
  rw [spl_splitB c _ s rfl] at h1
  simpa using h1
end Go.Proofs.YtdigdmnnjbndlaaGreatDoor
namespace Go.Proofs.YtdigdmnnjbndlaaGreatDoor
open Go.RowKit
def inK (par : List Int) (i k : Nat) : Bool := anyN (fun j => decide (par.getD j 0 = (i : Int))) k
def inn (t : Tre) (i : Nat) : Bool := inK t.par i t.par.length
def parB (par : List Int) (i : Nat) : Prop := if i = 0 then par.getD 0 0 ≠ -1 else par.getD i 0 < 0 ∨ (i : Int) ≤ par.getD i 0
instance (par : List Int) (i : Nat) : Decidable (parB par i) := by unfold parB; infer_instance
def parE (t : Tre) (i : Nat) : Int := if parB t.par i then 2 else 0
def namE (t : Tre) (i : Nat) : Int :=
  if inn t i = true then (if t.names.getD i ByteArray.empty = ByteArray.empty then 0 else 14)
  else if leafNm (t.names.getD i ByteArray.empty) = false then 14
  else if Lib.containsS (t.names.take i) (t.names.getD i ByteArray.empty) = true then 7 else 0
def treC (t : Tre) : Int :=
  if t.par.length = 0 then 5 else if 64 < t.par.length then 4 else if t.names.length ≠ t.par.length then 9
  else if firstErr (parE t) t.par.length ≠ 0 then firstErr (parE t) t.par.length else firstErr (namE t) t.par.length
theorem inK_step (par : List Int) (i k : Nat) : inK par i (k + 1) = (inK par i k || decide (par.getD k 0 = (i : Int))) := by
  unfold inK anyN
  rw [List.range_succ, List.any_append]
  simp
theorem treC_len {t : Tre} (h : treC t = 0) : 0 < t.par.length ∧ t.par.length ≤ 64 ∧ t.names.length = t.par.length ∧ (∀ i, i < t.par.length → ¬ parB t.par i) ∧ ∀ i, i < t.par.length → namE t i = 0 := by
  unfold treC at h
  split at h
  · omega
  split at h
  · omega
  split at h
  · omega
  split at h
  · omega
  · rename_i h1 h2 h3 h4
    refine ⟨by omega, by omega, by omega, fun i hi hb => ?_, firstErr_zero _ _ h⟩
    have := firstErr_zero _ _ (by omega : firstErr (parE t) t.par.length = 0) i hi
    unfold parE at this
    rw [if_pos hb] at this
    omega
theorem treC_par {t : Tre} (h : treC t = 0) : t.par.getD 0 0 = -1 ∧ ∀ i, 0 < i → i < t.par.length → 0 ≤ t.par.getD i 0 ∧ t.par.getD i 0 < (i : Int) := by
  obtain ⟨h0, _, _, hp, _⟩ := treC_len h
  refine ⟨?_, fun i h1 h2 => ?_⟩
  · have := hp 0 h0
    unfold parB at this
    rw [if_pos rfl] at this
    omega
  · have := hp i h2
    unfold parB at this
    rw [if_neg (by omega)] at this
    omega
theorem treC_nm {t : Tre} (h : treC t = 0) (i : Nat) (hi : i < t.par.length) : (inn t i = true ∧ t.names.getD i ByteArray.empty = ByteArray.empty) ∨ (inn t i = false ∧ leafNm (t.names.getD i ByteArray.empty) = true ∧ Lib.containsS (t.names.take i) (t.names.getD i ByteArray.empty) = false) := by
  have := (treC_len h).2.2.2.2 i hi
  unfold namE at this
  split at this
  · split at this
    · exact .inl ⟨by assumption, by assumption⟩
    · omega
  · split at this
    · omega
    split at this
    · omega
    · rename_i h1 h2 h3
      exact .inr ⟨by simpa using h1, by simpa using h2, by simpa using h3⟩
theorem leafNm_ne {x : ByteArray} (h : leafNm x = true) : x ≠ ByteArray.empty := by
  rintro rfl
  revert h
  decide
theorem treC_leaf {t : Tre} (h : treC t = 0) (i : Nat) (hi : i < t.par.length) : (t.names.getD i ByteArray.empty = ByteArray.empty) ↔ inn t i = true := by
  rcases treC_nm h i hi with ⟨h1, h2⟩ | ⟨h1, h2, _⟩
  · exact ⟨fun _ => h1, fun _ => h2⟩
  · exact ⟨fun e => absurd e (leafNm_ne h2), fun e => by rw [h1] at e; cases e⟩
def itS (i : Nat) : ByteArray := bOf (120 :: Lib.decDigits i)
def treW (t : Tre) (i : Nat) : ByteArray := if t.names.getD i ByteArray.empty = ByteArray.empty then itS i else t.names.getD i ByteArray.empty
def ftN (t : Tre) (k : Nat) : List ByteArray := (List.range k).map (treW t)
def ftX (t : Tre) (k : Nat) : List Bool := (List.range k).map fun i => decide (t.names.getD i ByteArray.empty ≠ ByteArray.empty)
def ftP (t : Tre) (k : Nat) : List (List Int) := (List.range k).map fun i => if i = 0 then [] else [t.par.getD i 0]
def ftS (t : Tre) : Stem := ⟨ftN t t.par.length, ftX t t.par.length, ftP t t.par.length⟩
def dupE (t : Tre) (i : Nat) : Int := if Lib.containsS ((ftN t t.par.length).take i) ((ftN t t.par.length).getD i ByteArray.empty) = true then 7 else 0
def ftE (t : Tre) : Int := if treC t ≠ 0 then 1 else firstErr (dupE t) t.par.length
theorem ftN_step (t : Tre) (k : Nat) : ftN t (k + 1) = ftN t k ++ [treW t k] := by
  unfold ftN; rw [List.range_succ, List.map_append]; rfl
theorem ftX_step (t : Tre) (k : Nat) : ftX t (k + 1) = ftX t k ++ [decide (t.names.getD k ByteArray.empty ≠ ByteArray.empty)] := by
  unfold ftX; rw [List.range_succ, List.map_append]; rfl
theorem ftP_step (t : Tre) (k : Nat) : ftP t (k + 1) = ftP t k ++ [if k = 0 then [] else [t.par.getD k 0]] := by
  unfold ftP; rw [List.range_succ, List.map_append]; rfl
theorem ftN_len (t : Tre) (k : Nat) : (ftN t k).length = k := by simp [ftN]
theorem ftX_len (t : Tre) (k : Nat) : (ftX t k).length = k := by simp [ftX]
theorem ftP_len (t : Tre) (k : Nat) : (ftP t k).length = k := by simp [ftP]
theorem ftN_at (t : Tre) (k i : Nat) (h : i < k) : (ftN t k).getD i ByteArray.empty = treW t i := by simp [ftN, h]
theorem ftX_at (t : Tre) (k i : Nat) (h : i < k) : (ftX t k).getD i false = decide (t.names.getD i ByteArray.empty ≠ ByteArray.empty) := by simp [ftX, h]
theorem ftP_at (t : Tre) (k i : Nat) (h : i < k) : (ftP t k).getD i [] = if i = 0 then [] else [t.par.getD i 0] := by simp [ftP, h]
theorem itS_nm : ∀ i, i < 64 → leafNm (itS i) = true := by
  have : (List.range 64).all (fun i => leafNm (itS i)) = true := by decide +kernel
  intro i hi
  exact List.all_eq_true.1 this i (List.mem_range.2 hi)
theorem itS_inj : ∀ i j, i < 64 → j < 64 → itS i = itS j → i = j := by
  have : (List.range 64).all (fun i => (List.range 64).all fun j => decide (Lib.decDigits i = Lib.decDigits j) == decide (i = j)) = true := by decide +kernel
  intro i j hi hj h
  have h2 := List.all_eq_true.1 (List.all_eq_true.1 this i (List.mem_range.2 hi)) j (List.mem_range.2 hj)
  unfold itS at h
  have h3 := bOf_inj h
  rw [List.cons.injEq] at h3
  rw [decide_eq_true h3.2, beq_iff_eq] at h2
  exact of_decide_eq_true h2.symm
theorem treW_nm {t : Tre} (h : treC t = 0) (i : Nat) (hi : i < t.par.length) : leafNm (treW t i) = true := by
  have hl := treC_len h
  unfold treW
  by_cases h3 : t.names.getD i ByteArray.empty = ByteArray.empty
  · rw [if_pos h3]; exact itS_nm i (by omega)
  · rw [if_neg h3]
    rcases treC_nm h i hi with ⟨_, h2⟩ | ⟨_, h2, _⟩
    · exact absurd h2 h3
    · exact h2
theorem itS_head (i : Nat) : (itS i).data.toList.head? = some 120 := by simp [itS, bOf]
theorem ftS_at {t : Tre} (h : treC t = 0) (i : Nat) (hi : i < t.par.length) : stAt (ftS t) i = dupE t i := by
  have hp := treC_par h
  unfold stAt dupE
  have e1 : (ftS t).names.getD i ByteArray.empty = treW t i := ftN_at t _ i hi
  have e2 : (ftS t).par.getD i [] = if i = 0 then [] else [t.par.getD i 0] := ftP_at t _ i hi
  have e3 : rngB ((ftS t).par.getD i []) i = false := by
    rw [e2]
    by_cases h0 : i = 0
    · rw [if_pos h0]; rfl
    · rw [if_neg h0]
      have := hp.2 i (by omega) hi
      simp only [rngB, List.any_cons, List.any_nil, Bool.or_false]
      rw [decide_eq_false (by omega), decide_eq_false (by omega)]; rfl
  have e4 : incB ((ftS t).par.getD i []) = true := by
    rw [e2]
    unfold incB
    split <;> simp
  rw [if_neg (by rw [e1, treW_nm h i hi]; simp), if_neg (c := rngB _ _ = true) (by rw [e3]; simp), if_neg (c := incB _ = false) (by rw [e4]; simp)]
  rfl
theorem firstErr_congr (f g : Nat → Int) : ∀ n : Nat, (∀ i, i < n → f i = g i) → firstErr f n = firstErr g n
  | 0, _ => rfl
  | n + 1, h => by
    rw [firstErr, firstErr, firstErr_congr f g n (fun i hi => h i (by omega)), h n (by omega)]
theorem ftS_chk {t : Tre} (h : treC t = 0) : stCheck (ftS t) = firstErr (dupE t) t.par.length := by
  have hl := treC_len h
  have e1 : (ftS t).names.length = t.par.length := ftN_len t _
  have e2 : (ftS t).ext.length = t.par.length := ftX_len t _
  have e3 : (ftS t).par.length = t.par.length := ftP_len t _
  unfold stCheck
  rw [if_neg (by omega), if_neg (by omega), if_neg (by omega), e1]
  exact firstErr_congr _ _ _ fun i hi => ftS_at h i hi
theorem dupE_val (t : Tre) : ∀ n : Nat, firstErr (dupE t) n = 0 ∨ firstErr (dupE t) n = 7
  | 0 => .inl rfl
  | n + 1 => by
    rw [firstErr]
    split
    · exact dupE_val t n
    · unfold dupE
      split
      · exact .inr rfl
      · exact .inl rfl
theorem ftE_val (t : Tre) : (treC t ≠ 0 ∧ ftE t = 1) ∨ (treC t = 0 ∧ stCheck (ftS t) = 0 ∧ ftE t = 0) ∨ (treC t = 0 ∧ stCheck (ftS t) ≠ 0 ∧ ftE t = 7) := by
  by_cases h : treC t = 0
  · right
    have e : ftE t = firstErr (dupE t) t.par.length := if_neg (by omega)
    rw [ftS_chk h, e]
    rcases dupE_val t t.par.length with h1 | h1
    · exact .inl ⟨h, h1, h1⟩
    · exact .inr ⟨h, by omega, h1⟩
  · exact .inl ⟨h, if_pos h⟩
theorem containsS_getD {xs : List ByteArray} {x : ByteArray} (h : Lib.containsS xs x = true) : ∃ j, j < xs.length ∧ xs.getD j ByteArray.empty = x := by
  obtain ⟨j, hj, e⟩ := List.getElem_of_mem ((Lib.containsS_iff _ _).1 h)
  exact ⟨j, hj, by rw [getD_lt _ _ _ hj]; exact e⟩
theorem containsS_take {xs : List ByteArray} {x : ByteArray} {i j : Nat} (hj : j < i) (hx : j < xs.length) (h : xs.getD j ByteArray.empty = x) : Lib.containsS (xs.take i) x = true := by
  rw [Lib.containsS_iff, ← h, getD_lt _ _ _ hx]
  exact List.mem_take_iff_getElem.2 ⟨j, by omega, rfl⟩
theorem ft_dup {t : Tre} (h : treC t = 0) (hd : firstErr (dupE t) t.par.length ≠ 0) : ∃ i, i < t.par.length ∧ (t.names.getD i ByteArray.empty).data.toList.head? = some 120 := by
  have hl := treC_len h
  have : ∃ i, i < t.par.length ∧ dupE t i ≠ 0 := by
    refine Classical.byContradiction fun hn => hd ?_
    have hz : ∀ i, i < t.par.length → dupE t i = 0 := fun i hi => Classical.byContradiction fun hc => hn ⟨i, hi, hc⟩
    rw [firstErr_congr _ (fun _ => 0) _ hz]
    have : ∀ n : Nat, firstErr (fun _ => (0 : Int)) n = 0 := by
      intro n
      induction n with
      | zero => rfl
      | succ n ih => exact firstErr_step _ _ ih rfl
    exact this _
  obtain ⟨i, hi, hc⟩ := this
  unfold dupE at hc
  split at hc
  · rename_i hcon
    obtain ⟨j, hj, e⟩ := containsS_getD hcon
    have hjl : j < i := by rw [List.length_take] at hj;omega
    have e2 : ((ftN t t.par.length).take i).getD j ByteArray.empty = treW t j := by
      rw [← ftN_at t t.par.length j (by omega)]
      simp only [List.getD_eq_getElem?_getD, List.getElem?_take, if_pos hjl]
    rw [e2, ftN_at t _ i hi] at e
    unfold treW at e
    by_cases ei : t.names.getD i ByteArray.empty = ByteArray.empty
    · rw [if_pos ei] at e
      by_cases ej : t.names.getD j ByteArray.empty = ByteArray.empty
      · rw [if_pos ej] at e
        have := itS_inj _ _ (by omega) (by omega) e
        omega
      · rw [if_neg ej] at e
        exact ⟨j, by omega, by rw [e]; exact itS_head _⟩
    · rw [if_neg ei] at e
      by_cases ej : t.names.getD j ByteArray.empty = ByteArray.empty
      · rw [if_pos ej] at e
        exact ⟨i, hi, by rw [← e]; exact itS_head _⟩
      · rw [if_neg ej] at e
        rcases treC_nm h i hi with ⟨_, h2⟩ | ⟨_, _, h2⟩
        · exact absurd h2 ei
        · rw [containsS_take hjl (by omega) e] at h2; cases h2
  · exact absurd rfl hc
theorem ft_cop {t : Tre} (h : treC t = 0) (i : Nat) (_hi : i < t.par.length) : cop (ftS t) i = inn t i := by
  have hp := treC_par h
  have hl := treC_len h
  have e3 : (ftS t).par.length = t.par.length := ftP_len t _
  rw [Bool.eq_iff_iff]
  unfold cop copK inn inK anyN
  rw [e3]
  simp only [List.any_eq_true, List.mem_range, decide_eq_true_eq]
  constructor
  · rintro ⟨j, hj, hb⟩
    have : (ftS t).par.getD j [] = if j = 0 then [] else [t.par.getD j 0] := ftP_at t _ j hj
    rw [this] at hb
    by_cases h0 : j = 0
    · rw [if_pos h0] at hb; cases hb
    · rw [if_neg h0] at hb
      have := List.contains_iff_mem.1 hb
      simp only [List.mem_singleton] at this
      exact ⟨j, hj, this.symm⟩
  · rintro ⟨j, hj, hb⟩
    have h0 : j ≠ 0 := fun e => by subst e; have := hp.1;omega
    refine ⟨j, hj, ?_⟩
    have : (ftS t).par.getD j [] = if j = 0 then [] else [t.par.getD j 0] := ftP_at t _ j hj
    rw [this, if_neg h0, hb]
    exact List.contains_iff_mem.2 (by simp)
theorem ft_treOk {t : Tre} (h : treC t = 0) : treOk (ftS t) := by
  have hl := treC_len h
  have e1 : (ftS t).names.length = t.par.length := ftN_len t _
  refine ⟨fun i h0 hi => ?_, fun i hi => ?_⟩
  · have : (ftS t).par.getD i [] = if i = 0 then [] else [t.par.getD i 0] := ftP_at t _ i (by omega)
    rw [this, if_neg (by omega)]; rfl
  · have e2 : (ftS t).ext.getD i false = decide (t.names.getD i ByteArray.empty ≠ ByteArray.empty) := ftX_at t _ i (by omega)
    rw [e2, ft_cop h i (by omega)]
    have := treC_leaf h i (by omega)
    cases hb : inn t i with
    | true => rw [this.2 hb]; simp
    | false =>
      have hn : t.names.getD i ByteArray.empty ≠ ByteArray.empty := fun hn => by rw [this.1 hn] at hb; cases hb
      rw [decide_eq_true hn]; simp
theorem ft_treP {t : Tre} (h : treC t = 0) : treP (ftS t) (ftS t).names.length = t.par := by
  have hl := treC_len h
  have hp := treC_par h
  have e1 : (ftS t).names.length = t.par.length := ftN_len t _
  rw [e1]
  refine ext_getDg _ _ 0 (by simp [treP]) fun i hi => ?_
  have hi : i < t.par.length := by simpa [treP] using hi
  have e : (treP (ftS t) t.par.length).getD i 0 = if i = 0 then -1 else ((ftS t).par.getD i []).getD 0 0 := by simp [treP, hi]
  have e2 : (ftS t).par.getD i [] = if i = 0 then [] else [t.par.getD i 0] := ftP_at t _ i hi
  rw [e, e2]
  by_cases h0 : i = 0
  · rw [if_pos h0, h0]; exact hp.1.symm
  · rw [if_neg h0, if_neg h0]; rfl
theorem ft_treN {t : Tre} (h : treC t = 0) : treN (ftS t) (ftS t).names.length = t.names := by
  have hl := treC_len h
  have e1 : (ftS t).names.length = t.par.length := ftN_len t _
  rw [e1]
  refine ext_getDg _ _ ByteArray.empty (by simp [treN, hl.2.2.1]) fun i hi => ?_
  have hi : i < t.par.length := by simpa [treN] using hi
  have e : (treN (ftS t) t.par.length).getD i ByteArray.empty = if cop (ftS t) i = true then ByteArray.empty else (ftS t).names.getD i ByteArray.empty := by simp [treN, hi]
  have e2 : (ftS t).names.getD i ByteArray.empty = treW t i := ftN_at t _ i hi
  rw [e, e2, ft_cop h i hi]
  have hlf := treC_leaf h i hi
  unfold treW
  by_cases hb : inn t i = true
  · rw [if_pos hb]; exact (hlf.2 hb).symm
  · rw [if_neg hb, if_neg fun hn => hb (hlf.1 hn)]
end Go.Proofs.YtdigdmnnjbndlaaGreatDoor
namespace Go.Proofs.YtdigdmnnjbndlaaGreatDoor
abbrev w36e : ByteArray := ⟨#[101, 120, 116, 97, 110, 116]⟩
abbrev w36l : ByteArray := ⟨#[108, 111, 115, 116]⟩
abbrev w36f : ByteArray := ⟨#[102, 114, 111, 109]⟩
def wrd (l : List UInt8) : List ByteArray := (spl 32 l).map bOf
def linW (t : List UInt8) : List (List ByteArray) := (spl 10 t).dropLast.map wrd ++ if (spl 10 t).getLastD [] = [] then [] else [[]]
def okL (ws : List ByteArray) : Bool :=
  decide (2 ≤ ws.length) && (!(Lib.containsS ws ByteArray.empty) && ((decide (ws.getD 1 ByteArray.empty = w36e) || decide (ws.getD 1 ByteArray.empty = w36l)) && (decide (ws.length ≤ 2) || (decide (ws.getD 2 ByteArray.empty = w36f) && decide (ws.length ≠ 3)))))
def nmL (ls : List (List ByteArray)) : List ByteArray := ls.map fun ws => ws.getD 0 ByteArray.empty
def exL (ls : List (List ByteArray)) : List Bool := ls.map fun ws => decide (ws.getD 1 ByteArray.empty = w36e)
def paL (ns : List ByteArray) (ws : List ByteArray) : List Int := (ws.drop 3).map (Lib.idxOfS ns)
def fndB (ns : List ByteArray) (ws : List ByteArray) : Bool := (ws.drop 3).all fun x => Lib.containsS ns x
def psS (t : ByteArray) : Stem := ⟨nmL (linW t.data.toList), exL (linW t.data.toList), (linW t.data.toList).map (paL (nmL (linW t.data.toList)))⟩
def psE (t : ByteArray) : Int :=
  if 65536 < t.size then 4 else if (linW t.data.toList).all okL = false then 3
  else if (linW t.data.toList).all (fndB (nmL (linW t.data.toList))) = false then 6 else stCheck (psS t)
theorem linW_nil : linW [] = [] := rfl
theorem linW_hit (a b : List UInt8) (h : (10 : UInt8) ∉ a) : linW (a ++ 10 :: b) = wrd a :: linW b := by
  unfold linW
  rw [spl_hit 10 b a h]
  obtain ⟨y, t, e⟩ := List.exists_cons_of_ne_nil (spl_ne 10 b)
  rw [e]
  rfl
theorem linW_miss (t : List UInt8) (h : (10 : UInt8) ∉ t) (hn : t ≠ []) : linW t = [[]] := by
  unfold linW
  rw [spl_miss 10 t h]
  show [] ++ (if t = [] then [] else [[]]) = _
  rw [if_neg hn]
  rfl
theorem wrd_len (l : List UInt8) : (wrd l).length ≤ l.length + 1 := by
  unfold wrd
  rw [List.length_map]
  exact spl_len_le 32 l
theorem wrd_size (l : List UInt8) : ∀ x ∈ wrd l, x.size ≤ l.length := by
  intro x hx
  unfold wrd at hx
  obtain ⟨y, hy, rfl⟩ := List.mem_map.1 hx
  rw [bOf_size]
  exact spl_size_le 32 l y hy
theorem linW_len (t : List UInt8) : (linW t).length ≤ t.length + 1 := by
  unfold linW
  have := spl_len_le 10 t
  have h2 := spl_ne 10 t
  rw [List.length_append, List.length_map, List.length_dropLast]
  have : 0 < (spl 10 t).length := List.length_pos_iff.2 h2
  split <;> simp <;> omega
theorem linW_mem (t : List UInt8) : ∀ ws ∈ linW t, ws.length ≤ t.length + 1 ∧ ∀ x ∈ ws, x.size ≤ t.length := by
  intro ws hw
  unfold linW at hw
  rcases List.mem_append.1 hw with h | h
  · obtain ⟨l, hl, rfl⟩ := List.mem_map.1 h
    have h1 := spl_size_le 10 t l ((List.dropLast_sublist _).subset hl)
    exact ⟨Nat.le_trans (wrd_len l) (by omega), fun x hx => Nat.le_trans (wrd_size l x hx) h1⟩
  · split at h
    · cases h
    · simp only [List.mem_singleton] at h
      subst h
      exact ⟨by simp, fun x hx => absurd hx List.not_mem_nil⟩
theorem idxFromS_in (x y : ByteArray) : ∀ (ns : List ByteArray) (i : Nat), x ∈ ns → Lib.idxFromS (ns ++ [y]) x i = Lib.idxFromS ns x i
  | z :: zs, i, h => by
    rw [List.cons_append]
    simp only [Lib.idxFromS]
    by_cases hz : z = x
    · rw [if_pos hz, if_pos hz]
    · rw [if_neg hz, if_neg hz]
      refine idxFromS_in x y zs (i + 1) ?_
      rcases List.mem_cons.1 h with h | h
      · exact absurd h.symm hz
      · exact h
theorem idxFromS_out (x y : ByteArray) : ∀ (ns : List ByteArray) (i : Nat), x ∉ ns → Lib.idxFromS (ns ++ [y]) x i = if y = x then ((i + ns.length : Nat) : Int) else -1
  | [], i, _ => rfl
  | z :: zs, i, h => by
    rw [List.mem_cons, not_or] at h
    rw [List.cons_append]
    simp only [Lib.idxFromS]
    rw [if_neg (fun e => h.1 e.symm), idxFromS_out x y zs (i + 1) h.2, List.length_cons]
    split
    · congr 1;omega
    · rfl
theorem idxS_app (ns : List ByteArray) (x y : ByteArray) : Lib.idxOfS (ns ++ [y]) x = if Lib.containsS ns x = true then Lib.idxOfS ns x else if y = x then (ns.length : Int) else -1 := by
  unfold Lib.idxOfS
  by_cases h : Lib.containsS ns x = true
  · rw [if_pos h, idxFromS_in x y ns 0 ((Lib.containsS_iff _ _).1 h)]
  · rw [if_neg h, idxFromS_out x y ns 0 (fun e => h ((Lib.containsS_iff _ _).2 e)), Nat.zero_add]
theorem conS_app (ns : List ByteArray) (x y : ByteArray) : Lib.containsS (ns ++ [y]) x = (Lib.containsS ns x || decide (y = x)) := by
  rw [Bool.eq_iff_iff, Bool.or_eq_true, Lib.containsS_iff, Lib.containsS_iff, List.mem_append, List.mem_singleton, decide_eq_true_eq]
  exact ⟨fun h => h.imp id fun e => e.symm, fun h => h.imp id fun e => e.symm⟩
def plcF (ns : List ByteArray) (x : ByteArray) : Option Int := if Lib.containsS ns x = true then some (Lib.idxOfS ns x) else none
theorem plcF_app (ns : List ByteArray) (x y : ByteArray) : plcF (ns ++ [y]) x = if Lib.containsS ns y = false ∧ y = x then some (ns.length : Int) else plcF ns x := by
  unfold plcF
  rw [idxS_app, conS_app]
  by_cases h : Lib.containsS ns x = true
  · rw [if_pos (by rw [h]; rfl), if_pos h, if_pos h, if_neg]
    rintro ⟨h1, rfl⟩
    rw [h] at h1; cases h1
  · rw [Bool.not_eq_true] at h
    rw [h, Bool.false_or]
    by_cases e : y = x
    · subst e
      simp [h]
    · simp [e]
end Go.Proofs.YtdigdmnnjbndlaaGreatDoor
namespace Go.Proofs.YtdigdmnnjbndlaaGreatDoor
open Go.RowKit Go.Maps
def MxL (w : World) : Prop := ∃ m, w.cell? ⟨1, 0, none⟩ = some (.int .i64 m)
theorem MxL.below {w w' : World} (h : MxL w) (hb : Below w.heap.size w w') : MxL w' := by
  obtain ⟨m, hm⟩ := h
  refine ⟨m, ?_⟩
  rw [← hm]
  have hlt : 1 < w.heap.size := by
    unfold World.cell? at hm
    cases h : w.heap[1]? with
    | none => simp [h] at hm
    | some o => exact (Array.getElem?_eq_some_iff.1 h).1
  unfold World.cell?
  rw [hb.block _ hlt]
theorem mxl_of (w : World) (h : w.ShapedOpen Tryz.prog) : MxL w := cell_of_shapedOpen_int (zero := #[.int .i64 0]) (t := 3) h (of_decide_eq_true (by kernel_rfl)) (by kernel_rfl) rfl (by kernel_rfl) (by kernel_rfl) Tryz.underlying3
set_option maxRecDepth 100000 in
set_option maxHeartbeats 4000000 in
theorem cut_sat (s : ByteArray) (c : UInt8) (w : World) (hm : MxL w) (hs : s.size ≤ 4000000000) :
    SatV Tryz.prog 99 [.string s, .string ⟨#[c]⟩] w (.tuple #[.string (bOf (Lib.cut s.data.toList [c]).1), .string (bOf (Lib.cut s.data.toList [c]).2.1), .bool (Lib.cut s.data.toList [c]).2.2]) :=
  Sat.lib ⟨_, _, Tryz.func99, by kernel_rfl, rfl⟩ fun w1 hb => by
    obtain ⟨m, hm⟩ := hm.below hb
    refine (Tryz.strings_Cut s ⟨#[c]⟩ m w1 (by omega) hm).mono ?_
    rintro e w' ⟨rfl, n, rfl⟩
    exact ⟨_, [], rfl, (Hp.refl w1).drewN n, rfl, rfl⟩
def rW (wv : Value) (ws : List ByteArray) : Res := .row 9 1 wv ws.length (strs ws)
set_option maxRecDepth 100000 in
set_option maxHeartbeats 4000000 in
theorem split_sat (s : ByteArray) (w : World) (hm : MxL w) (hs : s.size ≤ 4000000000) :
    Sat Tryz.prog 100 [.string s, .string ⟨#[32]⟩] w (fun u L => ∃ g, u = .slice (some ⟨g, 0, none⟩) (wrd s.data.toList).length (wrd s.data.toList).length ∧ L = [rW u (wrd s.data.toList)]) :=
  Sat.lib ⟨_, _, Tryz.func100, by kernel_rfl, rfl⟩ fun w1 hb => by
    obtain ⟨m, hm⟩ := hm.below hb
    refine (Tryz.strings_Split s ⟨#[32]⟩ m w1 (by omega) hm (by decide)).mono ?_
    have e1 : Lib.splitB ⟨#[32]⟩ 0 (Lib.countB s ⟨#[32]⟩) s = wrd s.data.toList := spl_splitB 32 _ s rfl
    have e2 : Lib.countB s ⟨#[32]⟩ + 1 = (wrd s.data.toList).length := by
      unfold wrd
      rw [List.length_map]
      exact (spl_count 32 s).symm
    have hl := wrd_len s.data.toList
    have hs2 : s.data.toList.length = s.size := Array.length_toList
    rw [e1, e2]
    rintro e w' ⟨rfl, rfl⟩
    refine ⟨_, _, rfl, ?_, w1.heap.size, rfl, rfl⟩
    have := (Hp.refl w1).lit 9 1 ((wrd s.data.toList).map Value.string).toArray (wrd s.data.toList).length (by unfold maxLen;omega) (by simp)
    simpa [rW, strs] using this
section
variable {P : Program} {n : Nat} {w0 : World} {Q : Exit → Fm → List Res → Prop} {K : Fm → List Res → Prop} {F : Fm} {L : List Res} {m : Md} {Lw : List Res} {ops : Array Oper} {rest : List Oper}
  {d : Option Nat} {ty : TypeId} {pos : String} {aft : Array Edge}
theorem OKx_lookOk {t k e : TypeId} {x y : Operand} {g c : Nat} {Fk : Lit → Option Value} {key : Value} {kl : Lit} {z v : Value} {b : Bool} (i : Nat) (hx : rv n F x = .map (some g)) (hy : rv n F y = key) (hi : L[i]? = some (.obj g (MapIs P k c Fk)))
    (Ky : Keyed P k) (ht : P.underlying t = some (.map k e)) (hz : ∀ w, (zeroValue e).run P w = .ok z w) (hkey : keyOf P k key = some kl) (hl : WideAt.IsKeyLit kl) (hv : (Fk kl).getD z = v) (hb : (Fk kl).isSome = b)
    (kk : OKx P n w0 m ops K rest (updo F d (.tuple #[v, .bool b])) L) : OKx P n w0 m ops K (⟨d, .lookup t x y true, ty, pos, aft, none⟩ :: rest) F L :=
  OKx_still (fun w hp _ _ _ _ => by
    have h := hp.lookOk i hi Ky ht (hz w) hkey hl
    subst hv
    subst hb
    simp [execOp, hx, hy, h, Result.andThen]) kk
end
theorem TKeyS : Keyed Tryz.prog 9 := string_keyed Tryz.underlying9
def litS (s : ByteArray) : Lit := .string s.data.toList
theorem keyS (s : ByteArray) (h : s.size ≤ 140737488355328) : keyOf Tryz.prog 9 (.string s) = some (litS s) := WideMaps.keyOf_string_mk Tryz.underlying9 (by unfold maxLen;omega)
theorem litS_key (s : ByteArray) : WideAt.IsKeyLit (litS s) := trivial
theorem putF_str (F : Lit → Option Value) (a b : ByteArray) (v : Value) : putF F (litS a) v (litS b) = if a = b then some v else F (litS b) := by
  unfold putF
  by_cases h : a = b
  · subst h
    rw [if_pos (WideAt.sameKey_self (litS_key a)), if_pos rfl]
  · rw [if_neg h, if_neg]
    intro e
    unfold litS at e
    simp only [Lit.sameKey, beq_iff_eq] at e
    apply h
    rw [← bOf_data a, ← bOf_data b, e]
end Go.Proofs.YtdigdmnnjbndlaaGreatDoor
namespace Go.Proofs.YtdigdmnnjbndlaaGreatDoor
open Go.RowKit
section
variable {P : Program} {ops : Array Oper} {Q : Exit → Act → World → Prop}
def cls2 (T0 T2 : List Nat) (wf : World) (Cw : World → Prop) (listed : Array Bool) (w : World) : Prop := (started T0 listed = false → w = wf) ∧ (started T2 listed = false → Cw w)
theorem started_hit {T : List Nat} {i : Nat} {listed : Array Bool} (hi : i ∈ T) (hr : i ∈ Region.ready .any ops listed) : started T (listed.setIfInBounds i true) = true := by
  unfold started
  rw [List.any_eq_true]
  refine ⟨i, hi, ?_⟩
  have hlt : i < listed.size := by
    have h0 := (mem_ready.1 hr).1
    rcases Nat.lt_or_ge i listed.size with h' | h'
    · exact h'
    · simp [Array.getElem?_eq_none h'] at h0
  simp [hlt]
theorem anyC_seqB {wf : World} {Cw : World → Prop} (T0 T2 : List Nat) : ∀ (T : List Nat) (lo : List Oper) (listed : Array Bool) (a : Act) (w : World), T.map (fun t => ops[t]?) = lo.map some → (∀ t ∈ T, t ∈ T0 ∧ t ∈ T2) → seqLB ops T listed = true → (started T0 listed = false → w = wf) → (started T2 listed = false → Cw w) → wpListC P ops (fun _ => True) Q lo a w →
    anyC P ops (cls2 T0 T2 wf Cw) Q T.length listed a w
  | [], lo, listed, a, w, hm, _, hB, hs, hs2, h => by
    obtain rfl : lo = [] := by simpa using hm.symm
    exact ⟨⟨hs, hs2⟩, by simpa [seqLB] using hB, h.2⟩
  | t :: T, lo, listed, a, w, hm, hT, hB, hs, hs2, h => by
    cases lo with
    | nil => simp at hm
    | cons o lo =>
      simp only [List.map_cons, List.cons.injEq] at hm
      obtain ⟨h0, hm⟩ := hm
      simp only [seqLB, Bool.and_eq_true, decide_eq_true_eq] at hB
      obtain ⟨_, h⟩ := h
      refine ⟨⟨hs, hs2⟩, fun h1 => (by rw [hB.1] at h1; cases h1), fun i hi => ?_⟩
      have hir := hi
      rw [hB.1] at hi
      have hit : i = t := by simpa using hi
      subst hit
      have hstart : started T0 (listed.setIfInBounds i true) = true := started_hit (hT i (by simp)).1 hir
      have hstart2 : started T2 (listed.setIfInBounds i true) = true := started_hit (hT i (by simp)).2 hir
      unfold wpOp
      simp only [h0]
      have next : ∀ a w, wpListC P ops (fun _ => True) Q lo a w → anyC P ops (cls2 T0 T2 wf Cw) Q T.length (listed.setIfInBounds i true) a w := fun a w h =>
        anyC_seqB T0 T2 T lo _ a w hm (fun t ht => hT t (by simp [ht])) hB.2 (fun h1 => by rw [hstart] at h1; cases h1) (fun h1 => by rw [hstart2] at h1; cases h1) h
      split
      · rename_i hw
        rw [if_pos hw] at h
        exact .inl (Oper.wp_mono next h)
      · rename_i hw
        rw [if_neg hw] at h
        exact next _ _ h
theorem anyC_seqA {wf : World} {Cw : World → Prop} {Qm : Exit → Act → World → Prop} (hQm : ∀ c a w, ¬ Qm (.panic c) a w) (hQo : ¬ LetsOut Qm) (anyQ : ∀ {o : Oper} {a : Act} {w : World} {K : Act → World → Prop}, o.wp P a w K Qm → o.wp P a w K Q) (T0 T2 : List Nat) (l2 : List Oper) (hm2 : T2.map (fun t => ops[t]?) = l2.map some) (hq : ∀ a w, Qm .normal a w → wpListC P ops (fun _ => True) Q l2 a w) (h20 : ∀ t ∈ T2, t ∈ T0) :
    ∀ (T : List Nat) (lo : List Oper) (listed : Array Bool) (a : Act) (w : World), T.map (fun t => ops[t]?) = lo.map some → (∀ t ∈ T, t ∈ T0) → seqLB ops (T ++ T2) listed = true → (started T0 listed = false → w = wf) → wpListC P ops Cw Qm lo a w →
    anyC P ops (cls2 T0 T2 wf Cw) Q (T ++ T2).length listed a w
  | [], lo, listed, a, w, hm, _, hB, hs, h => by
    obtain rfl : lo = [] := by simpa using hm.symm
    exact anyC_seqB T0 T2 T2 l2 listed a w hm2 (fun t ht => ⟨h20 t ht, ht⟩) hB hs (fun _ => h.1) (hq _ _ h.2)
  | t :: T, lo, listed, a, w, hm, hT, hB, hs, h => by
    cases lo with
    | nil => simp at hm
    | cons o lo =>
      simp only [List.map_cons, List.cons.injEq] at hm
      obtain ⟨h0, hm⟩ := hm
      simp only [List.cons_append, seqLB, Bool.and_eq_true, decide_eq_true_eq] at hB
      obtain ⟨hcw, h⟩ := h
      refine ⟨⟨hs, fun _ => hcw⟩, fun h1 => (by rw [hB.1] at h1; cases h1), fun i hi => ?_⟩
      have hir := hi
      rw [hB.1] at hi
      have hit : i = t := by simpa using hi
      subst hit
      have hstart : started T0 (listed.setIfInBounds i true) = true := started_hit (hT i (by simp)) hir
      unfold wpOp
      simp only [h0]
      have next : ∀ a w, wpListC P ops Cw Qm lo a w → anyC P ops (cls2 T0 T2 wf Cw) Q (T ++ T2).length (listed.setIfInBounds i true) a w := fun a w h =>
        anyC_seqA hQm hQo anyQ T0 T2 l2 hm2 hq h20 T lo _ a w hm (fun t ht => hT t (by simp [ht])) hB.2 (fun h1 => by rw [hstart] at h1; cases h1) h
      split
      · rename_i hw
        rw [if_pos hw] at h
        exact .inl (Oper.wp_mono next (anyQ h))
      · rename_i hw
        rw [if_neg hw] at h
        exact next _ _ h
def chainLB2 (T T2 : List Nat) : List (Nat × Bool) → Array Bool → Bool
  | [], listed => seqLB ops T listed
  | (i, t1) :: E, listed => stepB ops T listed i && (cond t1 (T.all fun t => memN t (waiters ops i)) (T2.all fun t => memN t (waiters ops i))) && chainLB2 T T2 E (listed.setIfInBounds i true)
theorem started_none {T : List Nat} {i : Nat} {listed : Array Bool} (hall : T.all (fun t => memN t (waiters ops i)) = true) (hW : ∀ j ∈ waiters ops i, listed.getD j true = false) : started T listed = false := by
  unfold started
  rw [List.any_eq_false]
  intro t ht hb
  have h1 := hW t ((memN_iff _ _).1 (List.all_eq_true.1 hall t ht))
  rcases Nat.lt_or_ge t listed.size with h' | h'
  · simp [h'] at h1 hb; rw [h1] at hb; cases hb
  · simp [Array.getElem?_eq_none h'] at hb
theorem anyC_early2 {wf : World} {Cw : World → Prop} {Kf : Act → Prop} (T T2 : List Nat) (h20 : ∀ t ∈ T2, t ∈ T) (fin : ∀ listed a, seqLB ops T listed = true → Kf a → anyC P ops (cls2 T T2 wf Cw) Q T.length listed a wf) (hsel : Region.noSelect ops = true) (hQ : ∀ c a w, ¬ Q (.panic c) a w) :
    ∀ (E : List (Nat × Bool)) (listed : Array Bool) (a : Act), chainLB2 (ops := ops) T T2 E listed = true → started T listed = false → wpEarly P ops wf Cw Kf E a →
    anyC P ops (cls2 T T2 wf Cw) Q (E.length + T.length) listed a wf
  | [], listed, a, hB, hs, h => by
    rw [List.length_nil, Nat.zero_add]
    exact fin listed a hB h
  | (i, t1) :: E, listed, a, hB, hs, h => by
    simp only [chainLB2, stepB, Bool.and_eq_true, Bool.not_eq_true'] at hB
    obtain ⟨⟨⟨⟨⟨hr, hf⟩, hiT⟩, hW⟩, ht1⟩, hB'⟩ := hB
    obtain ⟨oi, hi, h⟩ := h
    have hr' : i ∈ Region.ready .any ops listed := by simpa using hr
    have hW' : ∀ j ∈ waiters ops i, listed.getD j true = false := fun j hj => by
      have := List.all_eq_true.1 hW j hj
      simpa using this
    have hiT2 : memN i T2 = false := by
      cases hm : memN i T2 with
      | false => rfl
      | true =>
        have := (memN_iff i T).2 (h20 i ((memN_iff i T2).1 hm))
        rw [this] at hiT; cases hiT
    have hs' : started T (listed.setIfInBounds i true) = false := by rw [started_set hiT]; exact hs
    have hC : ∀ listed w, listed.getD i true = false → cls2 T T2 wf Cw (listed.setIfInBounds i true) w → cls2 T T2 wf Cw listed w := fun listed w _ h =>
      ⟨fun h1 => h.1 (by rw [started_set hiT]; exact h1), fun h1 => h.2 (by rw [started_set hiT2]; exact h1)⟩
    rw [show (List.length ((i, t1) :: E)) + T.length = (E.length + T.length) + 1 by simp;omega]
    by_cases hw : Region.wanted oi (yielded ops a.tmps) = true
    · rw [if_pos hw] at h
      obtain ⟨v, hv, hk⟩ := h
      refine anyC_first hi (Region.noSelect_spec hsel) hQ hC _ listed a wf (Region.free_spec hi hf) hr' hW' (.inl ⟨hw, fun listed' w' hiu hWu hc => ?_⟩) (anyC_early2 T T2 h20 fin hsel hQ E _ _ hB' hs' hk)
      refine hv w' ?_
      cases t1 with
      | false => simpa using hc.2 (started_none ht1 hWu)
      | true => simpa using hc.1 (started_none ht1 hWu)
    · rw [if_neg hw] at h
      exact anyC_first hi (Region.noSelect_spec hsel) hQ hC _ listed a wf (Region.free_spec hi hf) hr' hW' (.inr ⟨by simpa using hw, rfl⟩) (anyC_early2 T T2 h20 fin hsel hQ E _ _ hB' hs' h)
def mixB2 (ops : Array Oper) (A B A' T1 T2 : List Nat) : Bool :=
  Region.noSelect ops && Nat.beq (A.length + B.length + A'.length + (T1 ++ T2).length) ops.size && chainLB2 (ops := ops) (T1 ++ T2) T2 ((A.map fun i => (i, false)) ++ ((B.map fun i => (i, true)) ++ (A'.map fun i => (i, false)))) (Array.replicate ops.size false)
end
theorem OK.mk' {P : Program} {n : Nat} {w0 : World} {Q : Exit → Fm → List Res → Prop} {F : Fm} {L : List Res} {c : Code} (h : ∀ w a, Fr n a F → Hp w0.heap.size w0 w L → c.wp P (lift n w0 Q) a w) : OK P n w0 Q c F L := by unfold OK; exact h
theorem OKx.useP {P : Program} {n : Nat} {w0 : World} {K : Fm → List Res → Prop} {F : Fm} {L : List Res} {ops : Array Oper} {rest : List Oper} (h : OKx P n w0 .pure ops K rest F L) : ∀ a, Fr n a F → wpPure P ops (fun w => Hp w0.heap.size w0 w L) (fun a' => ∃ F', Fr n a' F' ∧ K F' L) rest a := by unfold OKx at h; exact h
end Go.Proofs.YtdigdmnnjbndlaaGreatDoor
