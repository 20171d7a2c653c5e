/-
  Part 25 of the proof: Pp39, Pr39, Bit, Reb. No statement of the seat is proved here.
-/
import Derived.Test.YtmclgfipdgmomaaMHAgreed24
import Derived.Laws.Shifts
namespace Go.Proofs.Ytmclgfipdgmomaa
theorem posL_mem (s : Stem) (st : List Int) (i : Nat) (x : Int) : x ∈ posL s st i ↔ 0 ≤ x ∧ x < 16 ∧ ∃ a ∈ asgs (occ st) st, (costN s.par a : Int) = (best1 s st).2 ∧ a.getD i 0 = x := by
  unfold posL
  simp only [List.mem_map, List.mem_filter, List.mem_range]
  unfold seenB
  simp only [List.any_eq_true, Bool.and_eq_true, decide_eq_true_eq, beq_iff_eq]
  constructor
  · rintro ⟨y, ⟨h1, a, ha, hc, hy⟩, rfl⟩
    exact ⟨by omega, by omega, a, ha, hc, hy⟩
  · rintro ⟨h0, h1, a, ha, hc, hy⟩
    obtain ⟨y, rfl⟩ := Int.eq_ofNat_of_zero_le h0
    exact ⟨y, ⟨by omega, a, ha, hc, hy⟩, rfl⟩
theorem posL_asc (s : Stem) (st : List Int) (i : Nat) : (posL s st i).Pairwise (· < ·) := by
  unfold posL
  rw [List.pairwise_map]
  refine (List.Pairwise.filter _ (List.pairwise_lt_range (n := 16))).imp ?_
  intro a b h
  omega
theorem asgs_rng (st a : List Int) (hr : ∀ x ∈ st, x < 16) (ha : a ∈ asgs (occ st) st) (i : Nat) (hi : i < st.length) : 0 ≤ a.getD i 0 ∧ a.getD i 0 < 16 := by
  have h := ((asgs_mem _ _ _).1 ha).2 i hi
  by_cases hs : st.getD i 0 < 0
  · rw [if_pos hs] at h
    exact occ_range st _ h
  · rw [if_neg hs] at h
    have := hr _ (getD_mem st i 0 hi)
    omega
theorem pos_best (s : Stem) (st : List Int) (hr : ∀ x ∈ st, x < 16) (i : Nat) (hi : i < st.length) : (best1 s st).1.getD i 0 ∈ posL s st i := by
  obtain ⟨h1, h2, _⟩ := best1_spec s st
  have h3 := asgs_rng st _ hr h1 i hi
  exact (posL_mem s st i _).2 ⟨h3.1, h3.2, _, h1, h2.symm, rfl⟩
end Go.Proofs.Ytmclgfipdgmomaa
namespace Go.Proofs.Ytmclgfipdgmomaa
def agX (st : List Int) (x : Int) : Int := if x ∈ st then x else 0
theorem occ_one (st : List Int) (x : Int) (h : 0 ≤ x ∧ x < 16) (hs : ∀ y ∈ st, y = x ∨ y = -1) : occ st = [agX st x] := by
  unfold agX
  by_cases hx : x ∈ st
  · rw [if_pos hx]
    have hm : x ∈ srtK st 16 := (srtK_mem _ _ _).2 ⟨hx, h.1, by omega⟩
    unfold occ
    rw [if_neg (List.ne_nil_of_mem hm)]
    refine asc_ext _ _ (srtK_asc _ _) (List.pairwise_singleton _ _) fun y => ?_
    rw [srtK_mem, List.mem_singleton]
    constructor
    · rintro ⟨h1, h2, _⟩
      rcases hs y h1 with h3 | h3
      · exact h3
      · omega
    · rintro rfl
      exact ⟨hx, h.1, by omega⟩
  · rw [if_neg hx]
    unfold occ
    rw [if_pos]
    rw [List.eq_nil_iff_forall_not_mem]
    intro y hy
    obtain ⟨h1, h2, _⟩ := (srtK_mem _ _ _).1 hy
    rcases hs y h1 with h3 | h3
    · subst h3; exact hx h1
    · omega
theorem agreed_ok (s : Stem) (st : List Int) (x : Int) (h : 0 ≤ x ∧ x < 16) (hs : ∀ y ∈ st, y = x ∨ y = -1) (hc : stCheck s = 0) (hl : st.length = s.par.length) : scE s st = 0 := by
  refine scE_ok (chkC_of hc hl fun y hy => by rcases hs y hy with h1 | h1 <;> omega) (many_end _ ?_)
  rw [occ_one st x h hs]
  simp
theorem agreed_pos (s : Stem) (st : List Int) (x : Int) (h : 0 ≤ x ∧ x < 16) (hs : ∀ y ∈ st, y = x ∨ y = -1) (i : Nat) (hi : i < st.length) : posL s st i = [agX st x] := by
  have hr : ∀ y ∈ st, y < 16 := fun y hy => by rcases hs y hy with h1 | h1 <;> omega
  have hb := pos_best s st hr i hi
  have key : ∀ a ∈ asgs (occ st) st, a.getD i 0 = agX st x := fun a ha => by
    have h1 := ((asgs_mem _ _ _).1 ha).2 i hi
    by_cases hu : st.getD i 0 < 0
    · rw [if_pos hu, occ_one st x h hs, List.mem_singleton] at h1; exact h1
    · rw [if_neg hu] at h1
      have hm := getD_mem st i 0 hi
      rcases hs _ hm with h2 | h2
      · rw [h1, h2]
        unfold agX
        rw [if_pos (by rw [← h2]; exact hm)]
      · omega
  refine asc_ext _ _ (posL_asc s st i) (List.pairwise_singleton _ _) fun y => ?_
  rw [List.mem_singleton]
  constructor
  · intro hy
    obtain ⟨_, _, a, ha, _, rfl⟩ := (posL_mem s st i y).1 hy
    exact key a ha
  · rintro rfl
    rw [key _ (best1_spec s st).1] at hb
    exact hb
theorem dscF_at (par : List (List Int)) (i j : Nat) : ∀ k, j < k → dscF par i k j = if j < i then false else if j = i then true else (par.getD j []).any fun p => dscF par i j p.toNat
  | 0, h => absurd h (by omega)
  | k + 1, h => by
    by_cases hj : j < k
    · rw [← dscF_at par i j k hj]
      exact dscL_old par i j k hj
    · obtain rfl : j = k := by omega
      exact dscL_new par i j
theorem dscF_ext (par : List (List Int)) (i j k m : Nat) (hk : j < k) (hm : j < m) : dscF par i k j = dscF par i m j := by
  rw [dscF_at par i j k hk, dscF_at par i j m hm]
theorem dsnL_mem (par : List (List Int)) (i k j : Nat) : (j : Int) ∈ dsnL par i k ↔ j < k ∧ i < j ∧ dscF par i k j = true := by
  unfold dsnL
  simp only [List.mem_map, List.mem_filter, List.mem_range, Bool.and_eq_true, decide_eq_true_eq]
  constructor
  · rintro ⟨q, ⟨h1, h2, h3⟩, e⟩
    obtain rfl : q = j := by omega
    exact ⟨h1, h2, h3⟩
  · rintro ⟨h1, h2, h3⟩
    exact ⟨j, ⟨h1, h2, h3⟩, rfl⟩
theorem braL_mem (s : Stem) (i j : Nat) (hi : i < s.par.length) : (j : Int) ∈ braL s i ↔ j < s.par.length ∧ dscF s.par i s.par.length j = true := by
  unfold braL
  rw [List.mem_cons, dsnL_mem]
  constructor
  · rintro (h | ⟨h1, _, h3⟩)
    · obtain rfl : j = i := by omega
      exact ⟨hi, by rw [dscF_at _ _ _ _ hi, if_neg (by omega), if_pos rfl]⟩
    · exact ⟨h1, h3⟩
  · rintro ⟨h1, h2⟩
    by_cases e : j = i
    · left; omega
    · right
      refine ⟨h1, ?_, h2⟩
      rw [dscF_at _ _ _ _ h1] at h2
      by_cases hlt : j < i
      · rw [if_pos hlt] at h2; cases h2
      · omega
theorem branch_of {s : Stem} (hok : okPar s.par) (r : Nat) (hr : ∀ j, j < s.par.length → s.par.getD j [] = [] → j = r) : ∀ j, j < s.par.length → s.par.getD j [] ≠ [] → ∃ n, n < s.par.length ∧ (r : Int) ∈ s.par.getD n [] ∧ dscF s.par n s.par.length j = true := by
  intro j
  induction j using Nat.strongRecOn with
  | _ j ih =>
    intro hj hp
    obtain ⟨p, hpm⟩ := List.exists_mem_of_ne_nil _ hp
    have hpr := okPar_getD hok j p hpm
    by_cases e : p = (r : Int)
    · subst e
      exact ⟨j, hj, hpm, by rw [dscF_at _ _ _ _ hj, if_neg (by omega), if_pos rfl]⟩
    · have hpn : s.par.getD p.toNat [] ≠ [] := fun h => e (by have := hr p.toNat (by omega) h; omega)
      obtain ⟨n, hn, hrn, hd⟩ := ih p.toNat (by omega) (by omega) hpn
      refine ⟨n, hn, hrn, ?_⟩
      rw [dscF_at _ _ _ _ hj]
      by_cases hlt : j < n
      · have hd2 := hd
        rw [dscF_at _ _ _ _ (show p.toNat < s.par.length by omega), if_pos (by omega)] at hd2
        cases hd2
      · rw [if_neg hlt]
        by_cases hjn : j = n
        · rw [if_pos hjn]
        · rw [if_neg hjn, List.any_eq_true]
          exact ⟨p, hpm, by rw [dscF_ext _ _ _ j s.par.length (by omega) (by omega)]; exact hd⟩
theorem branch_has {s : Stem} (n j : Nat) (hn : s.par.getD n [] ≠ []) (hj : j < s.par.length) (h : dscF s.par n s.par.length j = true) : s.par.getD j [] ≠ [] := by
  rw [dscF_at _ _ _ _ hj] at h
  split at h
  · cases h
  · split at h
    · rename_i e; rw [e]; exact hn
    · intro h0
      rw [h0] at h; cases h
theorem brOne_all (l : List Int) (x : Int) (h : ∀ y ∈ l, y = x) : brOne l = if l = [] then (0, false) else (x, true) := by
  cases l with
  | nil => rfl
  | cons a l =>
    rw [if_neg (by simp)]
    obtain rfl : a = x := h a (by simp)
    exact brOne_same a l (fun y hy => h y (by simp [hy]))
theorem braV_one (s : Stem) (st : List Int) (x : Int) (hx : 0 ≤ x) (hs : ∀ y ∈ st, y = x ∨ y = -1) (hl : st.length = s.par.length) (n : Nat) (hn : n < s.par.length) :
    ((braV s st n).2 = true ↔ ∃ j, j < st.length ∧ dscF s.par n s.par.length j = true ∧ 0 ≤ st.getD j 0) ∧ ((braV s st n).2 = true → (braV s st n).1 = x) := by
  have hmem : ∀ y, y ∈ brK st (braL s n) (braL s n).length ↔ ∃ j, j < st.length ∧ dscF s.par n s.par.length j = true ∧ 0 ≤ st.getD j 0 ∧ st.getD j 0 = y := fun y => by
    unfold brK
    rw [List.take_length, List.mem_filter, List.mem_map]
    constructor
    · rintro ⟨⟨q, hq, e⟩, h0⟩
      have hq0 : ∃ j : Nat, q = (j : Int) := by
        unfold braL at hq
        rcases List.mem_cons.1 hq with h | h
        · exact ⟨n, h⟩
        · have := dsnL_nat s.par n s.par.length q h
          exact ⟨q.toNat, by omega⟩
      obtain ⟨j, rfl⟩ := hq0
      obtain ⟨h1, h2⟩ := (braL_mem s n j hn).1 hq
      rw [Int.toNat_natCast] at e
      refine ⟨j, by omega, h2, ?_, e⟩
      rw [e]; simpa using h0
    · rintro ⟨j, h1, h2, h3, rfl⟩
      exact ⟨⟨(j : Int), (braL_mem s n j hn).2 ⟨by omega, h2⟩, by rw [Int.toNat_natCast]⟩, by simpa using h3⟩
  have hall : ∀ y ∈ brK st (braL s n) (braL s n).length, y = x := fun y hy => by
    obtain ⟨j, h1, _, h3, rfl⟩ := (hmem y).1 hy
    rcases hs _ (getD_mem st j 0 h1) with h | h
    · exact h
    · omega
  have hv : braV s st n = brOne (brK st (braL s n) (braL s n).length) := rfl
  rw [hv, brOne_all _ x hall]
  by_cases he : brK st (braL s n) (braL s n).length = []
  · rw [if_pos he]
    refine ⟨⟨fun h => absurd h (by simp), ?_⟩, fun h => absurd h (by simp)⟩
    rintro ⟨j, h1, h2, h3⟩
    have : st.getD j 0 ∈ brK st (braL s n) (braL s n).length := (hmem _).2 ⟨j, h1, h2, h3, rfl⟩
    rw [he] at this; simp at this
  · rw [if_neg he]
    refine ⟨⟨fun _ => ?_, fun _ => rfl⟩, fun _ => rfl⟩
    obtain ⟨y, hy⟩ := List.exists_mem_of_ne_nil _ he
    obtain ⟨j, h1, h2, h3, _⟩ := (hmem y).1 hy
    exact ⟨j, h1, h2, h3⟩
theorem majK_one (c : Int → Nat) (x : Nat) (h : ∀ y : Int, y ≠ (x : Int) → c y = 0) : ∀ k, majK c k = if x < k ∧ c (x : Int) ≠ 0 then ((x : Int), true) else (-1, false)
  | 0 => by rw [if_neg (by omega)]; rfl
  | k + 1 => by
    rw [majK, majK_one c x h k]
    by_cases hk : k = x
    · subst hk
      by_cases h0 : c (k : Int) = 0
      · rw [if_pos (.inl h0), if_neg (by omega), if_neg (by omega)]
      · rw [if_neg (show ¬ (k < k ∧ c (k : Int) ≠ 0) by omega)]
        rw [if_neg (by simp [h0]), if_neg (by simp), if_pos ⟨by omega, h0⟩]
    · rw [if_pos (.inl (h _ (by omega)))]
      by_cases h1 : x < k ∧ c (x : Int) ≠ 0
      · rw [if_pos h1, if_pos ⟨by omega, h1.2⟩]
      · rw [if_neg h1, if_neg (by omega)]
def agSome (s : Stem) (st : List Int) : Prop := ∃ j, j < st.length ∧ 0 ≤ st.getD j 0 ∧ s.par.getD j [] ≠ []
theorem rts_mem (s : Stem) (j : Nat) : (j : Int) ∈ rts s ↔ j < s.par.length ∧ s.par.getD j [] = [] := by
  unfold rts rtL
  simp only [List.mem_map, List.mem_filter, List.mem_range, decide_eq_true_eq]
  constructor
  · rintro ⟨q, ⟨h1, h2⟩, e⟩
    obtain rfl : q = j := by omega
    exact ⟨h1, List.eq_nil_of_length_eq_zero h2⟩
  · rintro ⟨h1, h2⟩
    exact ⟨j, ⟨h1, by rw [h2]; rfl⟩, rfl⟩
theorem agreed_maj (s : Stem) (st : List Int) (x : Nat) (hx : x < 16) (hs : ∀ y ∈ st, y = (x : Int) ∨ y = -1) (hc : stCheck s = 0) (hl : st.length = s.par.length) (hr : (rts s).length = 1) :
    majE s st = 0 ∧ (majB s st = true ↔ agSome s st) ∧ majV s st = if majB s st = true then (x : Int) else 0 := by
  have hok := stCheck_okPar s hc
  have hcc : chkC s st = 0 := chkC_of hc hl fun y hy => by rcases hs y hy with h1 | h1 <;> omega
  have hE : rooE s st = 0 := by unfold rooE; rw [if_neg (by omega), if_neg (by omega)]
  have hV : rooV s st = (rts s).getD 0 0 := if_neg (by omega)
  have hmr := getD_mem (rts s) 0 0 (by omega)
  have hrn := rtL_nat s.par s.par.length _ hmr
  obtain ⟨r, hr2⟩ : ∃ r : Nat, rooV s st = (r : Int) := ⟨(rooV s st).toNat, by omega⟩
  rw [← hV, hr2] at hmr hrn
  have hroot := (rts_mem s r).1 hmr
  have honly : ∀ j, j < s.par.length → s.par.getD j [] = [] → j = r := fun j h1 h2 => by
    have hj := (rts_mem s j).2 ⟨h1, h2⟩
    obtain ⟨z, hz⟩ := List.length_eq_one_iff.1 hr
    rw [hz] at hj hmr
    simp at hj hmr
    omega
  have hbr := fun n hn => braV_one s st (x : Int) (by omega) hs hl n hn
  have hcnt : ∀ y : Int, cntM s st (rooV s st) s.par.length y ≠ 0 ↔ ∃ n, n < s.par.length ∧ (r : Int) ∈ s.par.getD n [] ∧ (braV s st n).2 = true ∧ (braV s st n).1 = y := fun y => by
    unfold cntM
    rw [Ne, List.length_eq_zero_iff, List.filter_eq_nil_iff, hr2]
    simp only [List.mem_range, Bool.and_eq_true, beq_iff_eq, hasI, List.contains_iff_mem]
    constructor
    · intro h
      obtain ⟨n, hn⟩ := Classical.not_forall.1 h
      obtain ⟨h1, h2⟩ := Classical.not_imp.1 hn
      obtain ⟨h3, h4, h5⟩ := Classical.not_not.1 h2
      exact ⟨n, h1, h3, h4, h5⟩
    · rintro ⟨n, h1, h2, h3, h4⟩ h
      exact h n h1 ⟨h2, h3, h4⟩
  have hzero : ∀ y : Int, y ≠ (x : Int) → cntM s st (rooV s st) s.par.length y = 0 := fun y hy => by
    refine Classical.byContradiction fun h => ?_
    obtain ⟨n, h1, _, h3, h4⟩ := (hcnt y).1 h
    exact hy (h4.symm.trans ((hbr n h1).2 h3))
  have hO : majO s st = if x < 16 ∧ cntM s st (rooV s st) s.par.length (x : Int) ≠ 0 then ((x : Int), true) else (-1, false) := majK_one _ x hzero 16
  have hB : majB s st = (majO s st).2 := if_neg (fun h => h hE)
  have hsome : cntM s st (rooV s st) s.par.length (x : Int) ≠ 0 ↔ agSome s st := by
    rw [hcnt]
    constructor
    · rintro ⟨n, h1, h2, h3, _⟩
      obtain ⟨j, h4, h5, h6⟩ := (hbr n h1).1.1 h3
      exact ⟨j, h4, h6, branch_has n j (List.ne_nil_of_mem h2) (by omega) h5⟩
    · rintro ⟨j, h4, h6, h7⟩
      obtain ⟨n, h1, h2, h5⟩ := branch_of hok r honly j (by omega) h7
      have h3 := (hbr n h1).1.2 ⟨j, h4, h5, h6⟩
      exact ⟨n, h1, h2, h3, (hbr n h1).2 h3⟩
  refine ⟨hE, ?_, ?_⟩
  · rw [hB, hO, ← hsome]
    by_cases h : cntM s st (rooV s st) s.par.length (x : Int) ≠ 0
    · rw [if_pos ⟨hx, h⟩]; simp [h]
    · rw [if_neg (fun h2 => h h2.2)]; simp [h]
  · have hMV : majV s st = if majE s st ≠ 0 ∨ (majO s st).2 = false then 0 else (majO s st).1 := rfl
    have hE2 : majE s st = 0 := hE
    rw [hMV, hB]
    by_cases h : cntM s st (rooV s st) s.par.length (x : Int) ≠ 0
    · rw [if_pos ⟨hx, h⟩] at hO
      rw [hO, hE2]; simp
    · rw [if_neg (fun h2 => h h2.2)] at hO
      rw [hO, hE2]; simp
end Go.Proofs.Ytmclgfipdgmomaa
namespace Go.Proofs.Ytmclgfipdgmomaa
open Go.RowKit
section
variable {P : Program} {n : Nat} {w0 : World} {K : Fm → List Res → Prop} {F : Fm} {L : List Res} {m : Md} {ops : Array Oper} {rest : List Oper} {d : Option Nat} {ty : TypeId} {pos : String} {aft : Array Edge}
theorem OKx_shr {t ut : TypeId} {x y : Operand} {k yk : IntKind} {a b : Int} (hx : rv n F x = .int k a) (hy : rv n F y = .int yk b) (h0 : 0 ≤ b)
    (kk : OKx P n w0 m ops K rest (updo F d (.int k (a / 2 ^ min b.toNat k.bits))) L) : OKx P n w0 m ops K (⟨d, .binOp .shr t x y ut, ty, pos, aft, none⟩ :: rest) F L :=
  OKx_still (fun w _ _ _ _ _ => by
    have h1 : (eqGuard .shr t x y (.int k a) (.int yk b)).run P w = .ok () w := rfl
    have h2 : (binOp .shr t (.int k a) (.int yk b)).run P w = .ok (.int k (a / 2 ^ min b.toNat k.bits)) w := by
      show (Op.shift .shr k a yk b).run P w = _
      rw [shift_shr_any k yk a b h0]; rfl
    simp [execOp, hx, hy, Sem.run_bind, h1, h2, Result.andThen]) kk
def andK (k : IntKind) (a b : Int) : Int := k.wrap ((BitVec.ofInt k.bits a &&& BitVec.ofInt k.bits b).toNat : Int)
theorem OKx_and {t ut : TypeId} {x y : Operand} {k : IntKind} {a b : Int} (hx : rv n F x = .int k a) (hy : rv n F y = .int k b)
    (kk : OKx P n w0 m ops K rest (updo F d (.int k (andK k a b))) L) : OKx P n w0 m ops K (⟨d, .binOp .and t x y ut, ty, pos, aft, none⟩ :: rest) F L :=
  OKx_still (fun w _ _ _ _ _ => run_int .and t x y k a b (by decide) w ut _ _ _ _ _ hx hy rfl) kk
end
end Go.Proofs.Ytmclgfipdgmomaa
namespace Go.Proofs.Ytmclgfipdgmomaa
open Go.RowKit
theorem pt1Box {B : Nat} {w0 w : World} {L : List Res} {e : TypeId} {g : Nat} {cs : List Value} {v : Value} (hp : Hp B w0 w L) (i : Nat) (hi : L[i]? = some (.box e g cs)) (k : Nat) (hk : cs[k]? = some v) : Pt1 w (.pointer (some ⟨g, k, none⟩)) v :=
  ⟨g, k, rfl, by rw [← hk]; exact (hp.boxAt i hi).1 k⟩
end Go.Proofs.Ytmclgfipdgmomaa
