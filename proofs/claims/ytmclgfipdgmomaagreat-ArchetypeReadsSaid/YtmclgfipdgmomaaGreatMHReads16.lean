/-
  Part 16 of the proof: Pl39, Gu. No statement of the seat is proved here.
-/
import Derived.Test.YtmclgfipdgmomaaGreatMHReads15
namespace Go.Proofs.YtmclgfipdgmomaaGreat
def asgU (V : List Int) : List Int → List Int → List (List Int)
  | [], o => [o]
  | u :: us, o => V.flatMap fun v => asgU V us (o.set u.toNat v)
theorem setI_getD (l : List Int) (i j : Nat) (v : Int) (hj : j < l.length) : (l.set i v).getD j 0 = if i = j then v else l.getD j 0 := by
  rw [List.getD_eq_getElem?_getD, List.getElem?_set, List.getD_eq_getElem?_getD]
  split
  · rename_i h; subst h; rw [if_pos hj]; rfl
  · rfl
theorem ext_getD (a b : List Int) (hl : a.length = b.length) (h : ∀ j, j < a.length → a.getD j 0 = b.getD j 0) : a = b := by
  refine List.ext_getElem hl fun j h1 h2 => ?_
  have := h j h1
  rwa [getD_lt _ _ _ h1, getD_lt _ _ _ h2] at this
theorem asgU_off (V : List Int) : ∀ (us o o' : List Int), (∀ u ∈ us, 0 ≤ u) → o.length = o'.length → (∀ j, j < o.length → (j : Int) ∉ us → o.getD j 0 = o'.getD j 0) → asgU V us o = asgU V us o'
  | [], o, o', _, hl, h => by
    rw [ext_getD o o' hl (fun j hj => h j hj (by simp))]
  | u :: us, o, o', h0, hl, h => by
    unfold asgU
    refine flat_congr _ _ _ fun v _ => ?_
    refine asgU_off V us _ _ (fun x hx => h0 x (by simp [hx])) (by simp [hl]) (fun j hj hn => ?_)
    rw [List.length_set] at hj
    rw [setI_getD _ _ _ _ hj, setI_getD _ _ _ _ (by omega)]
    split
    · rfl
    · rename_i hne
      refine h j hj ?_
      rw [List.mem_cons]
      rintro (e | e)
      · exact hne (by omega)
      · exact hn e
theorem asgU_mem (V : List Int) : ∀ (us o a : List Int), (∀ u ∈ us, 0 ≤ u ∧ u.toNat < o.length) → (a ∈ asgU V us o ↔ a.length = o.length ∧ ∀ j, j < o.length → if (j : Int) ∈ us then a.getD j 0 ∈ V else a.getD j 0 = o.getD j 0)
  | [], o, a, _ => by
    unfold asgU
    rw [List.mem_singleton]
    constructor
    · rintro rfl
      exact ⟨rfl, fun j hj => by rw [if_neg (by simp)]⟩
    · rintro ⟨h1, h2⟩
      exact ext_getD a o h1 (fun j hj => by have := h2 j (by omega); rwa [if_neg (by simp)] at this)
  | u :: us, o, a, h0 => by
    have hu := h0 u (by simp)
    unfold asgU
    rw [List.mem_flatMap]
    have ih := fun v => asgU_mem V us (o.set u.toNat v) a (fun x hx => by have := h0 x (by simp [hx]); simpa using this)
    constructor
    · rintro ⟨v, hv, ha⟩
      obtain ⟨h1, h2⟩ := (ih v).1 ha
      rw [List.length_set] at h1 h2
      refine ⟨h1, fun j hj => ?_⟩
      have h3 := h2 j hj
      by_cases hm : (j : Int) ∈ us
      · rw [if_pos hm] at h3
        rw [if_pos (by simp [hm])]; exact h3
      · rw [if_neg hm, setI_getD _ _ _ _ hj] at h3
        by_cases e : u.toNat = j
        · rw [if_pos e] at h3
          rw [if_pos (by rw [List.mem_cons]; left; omega), h3]; exact hv
        · rw [if_neg e] at h3
          rw [if_neg (by rw [List.mem_cons]; exact fun e2 => e2.elim (fun e2 => e (by omega)) hm)]; exact h3
    · rintro ⟨h1, h2⟩
      have h3 := h2 u.toNat hu.2
      rw [if_pos (by rw [List.mem_cons]; left; omega)] at h3
      refine ⟨_, h3, (ih _).2 ⟨by simpa using h1, fun j hj => ?_⟩⟩
      rw [List.length_set] at hj
      have h4 := h2 j hj
      by_cases hm : (j : Int) ∈ us
      · rw [if_pos hm]
        rwa [if_pos (by simp [hm])] at h4
      · rw [if_neg hm, setI_getD _ _ _ _ hj]
        by_cases e : u.toNat = j
        · rw [if_pos e, e]
        · rw [if_neg e]
          rwa [if_neg (by rw [List.mem_cons]; exact fun e2 => e2.elim (fun e2 => e (by omega)) hm)] at h4
def unkL (st : List Int) (k : Nat) : List Int := ((List.range k).filter (fun j => decide (st.getD j 0 < 0))).map (fun j : Nat => (j : Int))
theorem unkL_step (st : List Int) (k : Nat) : unkL st (k + 1) = unkL st k ++ if st.getD k 0 < 0 then [(k : Int)] else [] := by
  unfold unkL
  rw [List.range_succ, List.filter_append, List.map_append]
  congr 1
  by_cases h : st.getD k 0 < 0
  · rw [if_pos h, List.filter_cons_of_pos (by simpa using h)]; rfl
  · rw [if_neg h, List.filter_cons_of_neg (by simpa using h)]; rfl
theorem unkL_mem (st : List Int) (k j : Nat) : (j : Int) ∈ unkL st k ↔ j < k ∧ st.getD j 0 < 0 := by
  unfold unkL
  simp only [List.mem_map, List.mem_filter, List.mem_range, decide_eq_true_eq]
  constructor
  · rintro ⟨i, ⟨h1, h2⟩, e⟩
    obtain rfl : i = j := by omega
    exact ⟨h1, h2⟩
  · rintro ⟨h1, h2⟩
    exact ⟨j, ⟨h1, h2⟩, rfl⟩
theorem unkL_nat (st : List Int) (k : Nat) : ∀ u ∈ unkL st k, 0 ≤ u ∧ u.toNat < k := by
  intro u hu
  unfold unkL at hu
  simp only [List.mem_map, List.mem_filter, List.mem_range] at hu
  obtain ⟨i, ⟨h1, _⟩, rfl⟩ := hu
  omega
theorem unkL_len (st : List Int) (k : Nat) : (unkL st k).length ≤ k := by
  unfold unkL
  rw [List.length_map]
  exact Nat.le_trans (List.length_filter_le _ _) (by simp)
def knwL (st : List Int) : Nat → List Int
  | 0 => []
  | k + 1 => knwL st k ++ if st.getD k 0 < 0 ∨ hasI (knwL st k) (st.getD k 0) = true then [] else [st.getD k 0]
theorem knwL_mem (st : List Int) (x : Int) : ∀ k, x ∈ knwL st k ↔ 0 ≤ x ∧ ∃ j, j < k ∧ st.getD j 0 = x
  | 0 => by simp [knwL]
  | k + 1 => by
    have ih := knwL_mem st x k
    rw [knwL, List.mem_append, ih]
    constructor
    · rintro (⟨h0, j, h1, h2⟩ | h)
      · exact ⟨h0, j, by omega, h2⟩
      · split at h
        · simp at h
        · rename_i hn
          rw [List.mem_singleton] at h
          subst h
          exact ⟨by omega, k, by omega, rfl⟩
    · rintro ⟨h0, j, h1, h2⟩
      by_cases hj : j < k
      · exact .inl ⟨h0, j, hj, h2⟩
      · obtain rfl : j = k := by omega
        split
        · rename_i hc
          left
          rcases hc with hc | hc
          · omega
          · unfold hasI at hc
            rw [List.contains_iff_mem, h2, ih] at hc
            exact hc
        · right; rw [h2]; simp
theorem knwL_len (st : List Int) : ∀ k, (knwL st k).length ≤ k
  | 0 => by simp [knwL]
  | k + 1 => by
    have := knwL_len st k
    rw [knwL, List.length_append]
    split <;> simp <;> omega
def knw (st : List Int) : List Int := if knwL st st.length = [] then [0] else knwL st st.length
theorem knw_occ (st : List Int) (hr : ∀ x ∈ st, x < 16) (x : Int) : x ∈ knw st ↔ x ∈ occ st := by
  have key : x ∈ knwL st st.length ↔ x ∈ srtK st 16 := by
    rw [knwL_mem, srtK_mem]
    constructor
    · rintro ⟨h0, j, h1, rfl⟩
      exact ⟨getD_mem st j 0 h1, h0, by have := hr _ (getD_mem st j 0 h1); omega⟩
    · rintro ⟨h1, h2, _⟩
      obtain ⟨j, hj, e⟩ := List.getElem_of_mem h1
      exact ⟨h2, j, hj, by rw [getD_lt _ _ _ hj]; exact e⟩
  have hnil : knwL st st.length = [] ↔ srtK st 16 = [] := by
    rw [List.eq_nil_iff_forall_not_mem, List.eq_nil_iff_forall_not_mem]
    have keyA : ∀ y, y ∈ knwL st st.length ↔ y ∈ srtK st 16 := fun y => by
      rw [knwL_mem, srtK_mem]
      constructor
      · rintro ⟨h0, j, h1, rfl⟩
        exact ⟨getD_mem st j 0 h1, h0, by have := hr _ (getD_mem st j 0 h1); omega⟩
      · rintro ⟨h1, h2, _⟩
        obtain ⟨j, hj, e⟩ := List.getElem_of_mem h1
        exact ⟨h2, j, hj, by rw [getD_lt _ _ _ hj]; exact e⟩
    exact ⟨fun h y hy => h y ((keyA y).2 hy), fun h y hy => h y ((keyA y).1 hy)⟩
  unfold knw occ
  by_cases h : srtK st 16 = []
  · rw [if_pos (hnil.2 h), if_pos h]
  · rw [if_neg (fun e => h (hnil.1 e)), if_neg h]; exact key
def asgH (st : List Int) : List (List Int) := asgU (knw st) (unkL st st.length) st
theorem asgH_mem (st : List Int) (hr : ∀ x ∈ st, x < 16) (a : List Int) : a ∈ asgH st ↔ a ∈ asgs (occ st) st := by
  unfold asgH
  rw [asgU_mem _ _ _ _ (fun u hu => unkL_nat st _ u hu), asgs_mem]
  refine and_congr Iff.rfl (forall_congr' fun j => forall_congr' fun hj => ?_)
  by_cases h : st.getD j 0 < 0
  · rw [if_pos ((unkL_mem st _ j).2 ⟨hj, h⟩), if_pos h]
    exact knw_occ st hr _
  · rw [if_neg (fun h2 => h ((unkL_mem st _ j).1 h2).2), if_neg h]
def seenB (par : List (List Int)) (c : Int) (l : List (List Int)) (i x : Nat) : Bool := l.any fun a => decide ((costN par a : Int) = c) && (a.getD i 0 == (x : Int))
theorem seenB_snoc (par : List (List Int)) (c : Int) (l : List (List Int)) (a : List Int) (i x : Nat) : seenB par c (l ++ [a]) i x = (seenB par c l i x || (decide ((costN par a : Int) = c) && (a.getD i 0 == (x : Int)))) := by
  unfold seenB
  rw [List.any_append]
  simp
theorem seenB_congr (par : List (List Int)) (c : Int) (l m : List (List Int)) (h : ∀ a, a ∈ l ↔ a ∈ m) (i x : Nat) : seenB par c l i x = seenB par c m i x := by
  unfold seenB
  rw [Bool.eq_iff_iff, List.any_eq_true, List.any_eq_true]
  exact ⟨fun ⟨a, h1, h2⟩ => ⟨a, (h a).1 h1, h2⟩, fun ⟨a, h1, h2⟩ => ⟨a, (h a).2 h1, h2⟩⟩
def posL (s : Stem) (st : List Int) (i : Nat) : List Int := ((List.range 16).filter (seenB s.par (best1 s st).2 (asgs (occ st) st) i)).map (fun x : Nat => (x : Int))
def posT (s : Stem) (st : List Int) : List (List Int) := (List.range st.length).map (posL s st)
end Go.Proofs.YtmclgfipdgmomaaGreat
namespace Go.Proofs.YtmclgfipdgmomaaGreat
open Go.RowKit
theorem Fr.yieldU {n : Nat} {F : Fm} {ops : Array Oper} {a : Act} (hf : Fr n a F) {j t : Nat} (hj : (ops[j]?).bind (·.dst) = some t) (hb : rv n F (.tmp t) = undef) : yielded ops a.tmps j = none := by
  have he := hf.eval
  have h1 : a.eval (.tmp t) = undef := by rw [he]; exact hb
  unfold yielded
  rw [hj]
  simp only [Option.bind_some]
  simp only [Act.eval, Frame.eval] at h1
  split
  · rename_i b h2
    simp [h2, undef] at h1
  · rfl
theorem OKx_guardU {P : Program} {n : Nat} {w0 : World} {K : Fm → List Res → Prop} {F : Fm} {L : List Res} {m : Md} {ops : Array Oper} {rest : List Oper} {d : Option Nat} {o : Op} {ty : TypeId} {pos : String} {aft : Array Edge} {j t : Nat} {b : Bool} (hj : (ops[j]?).bind (·.dst) = some t) (hb : rv n F (.tmp t) = undef)
    (h : OKx P n w0 m ops K rest (updo F d undef) L) : OKx P n w0 m ops K (⟨d, o, ty, pos, aft, some (j, b)⟩ :: rest) F L := by
  have key : ∀ a : Act, Fr n a F → Region.wanted (⟨d, o, ty, pos, aft, some (j, b)⟩ : Oper) (yielded ops a.tmps) = false := by
    intro a hf
    simp only [Region.wanted, Fr.yieldU hf hj hb]
    cases b <;> rfl
  unfold OKx at h ⊢
  cases m with
  | seq Lw =>
    intro w a hf hp
    have h1 := h w _ (hf.put d undef) hp
    refine ⟨h1.cls, ?_⟩
    rw [key a hf]
    exact h1
  | quiet =>
    intro a hf
    unfold wpQuiet
    rw [key a hf]
    exact h _ (hf.put d undef)
  | pure =>
    intro a hf
    unfold wpPure
    rw [key a hf]
    exact h _ (hf.put d undef)
theorem OKx_beqT {P : Program} {n : Nat} {w0 : World} {K : Fm → List Res → Prop} {F : Fm} {L : List Res} {m : Md} {ops : Array Oper} {rest : List Oper} {d : Option Nat} {ty : TypeId} {pos : String} {aft : Array Edge} {t ut : TypeId} {x y : Operand} {a : Bool}
    (ht : P.underlying t = some .bool) (hx : rv n F x = .bool a) (hy : rv n F y = .bool a) (kk : OKx P n w0 m ops K rest (updo F d (.bool true)) L) : OKx P n w0 m ops K (⟨d, .binOp .eql t x y ut, ty, pos, aft, none⟩ :: rest) F L :=
  OKx_still (fun w _ _ _ _ _ => by
    have hg : (eqGuard .eql t x y (.bool a) (.bool a)).run P w = .ok () w := by simp [eqGuard]
    have h := run_eql_bool (P := P) (w := w) t a a ht
    simp [execOp, hx, hy, Sem.run_bind, hg, h, Result.andThen]) kk
end Go.Proofs.YtmclgfipdgmomaaGreat
