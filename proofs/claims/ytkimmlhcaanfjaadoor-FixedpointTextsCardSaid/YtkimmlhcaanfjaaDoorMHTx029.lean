/-
  Part 9 of the proof: Pn02, Ps02, Fc02, Stem, Stl, Rf. No statement of the seat is proved here.
-/
import Derived.Test.YtkimmlhcaanfjaaDoorMHTx028
import Derived.Lib.AppendIntMem
import Derived.Test.YtkimmlhcaanfjaaDoorRows
import Derived.WalkKit
import Derived.WalkSpells
import Derived.WalkLawsBesides
import Derived.Lib.Hide
import Derived.Deep.Light
import Derived.Deep.QuietTactic
import Derived.BigQuiet
import Derived.StringKeys
import Derived.RangeFuncRecord
import Derived.RangeFuncLeaves
import Derived.RangeFuncCalls
import Derived.Sort.LoopGhostIn
namespace Go.Proofs.YtkimmlhcaanfjaaDoor
open Go.RowKit Go.Lib
theorem snocInd {α : Type} {p : List α → Prop} (h0 : p []) (hs : ∀ l a, p l → p (l ++ [a])) (l : List α) : p l := by
  have key : ∀ l : List α, p l.reverse := by
    intro l
    induction l with
    | nil => exact h0
    | cons a l ih => rw [List.reverse_cons]; exact hs _ _ ih
  have := key l.reverse
  rwa [List.reverse_reverse] at this
def valD (l : List UInt8) : Int := l.foldl (fun n d => 10 * n + dgv d) 0
theorem isDg_rng {b : UInt8} (h : isDg b = true) : 48 ≤ b.toNat ∧ b.toNat ≤ 57 := by
  unfold isDg at h
  simpa using h
theorem dgv_rng {b : UInt8} (h : isDg b = true) : 0 ≤ dgv b ∧ dgv b ≤ 9 := by
  have := isDg_rng h
  unfold dgv;omega
theorem u8_eq {a b : UInt8} (h : a.toNat = b.toNat) : a = b := UInt8.toNat_inj.1 h
theorem ofNat_toNat {k : Nat} (h : k < 256) : (UInt8.ofNat k).toNat = k := by rw [UInt8.toNat_ofNat']; exact Nat.mod_eq_of_lt h
theorem valD_snoc (l : List UInt8) (d : UInt8) : valD (l ++ [d]) = 10 * valD l + dgv d := by simp [valD]
theorem valD_nonneg (l : List UInt8) (h : ∀ b ∈ l, isDg b = true) : 0 ≤ valD l := by
  induction l using snocInd with
  | h0 => simp [valD]
  | hs l d ih =>
    rw [valD_snoc]
    have h1 := ih fun b hb => h b (List.mem_append_left _ hb)
    have h2 := dgv_rng (h d (List.mem_append_right _ List.mem_cons_self))
    omega
theorem dgsN_snoc (l : List UInt8) (d : UInt8) : dgsN (l ++ [d]) = min (10 * dgsN l + dgv d) 1073741824 := by simp [dgsN]
theorem dgsN_val (l : List UInt8) (h : ∀ b ∈ l, isDg b = true) : dgsN l = min (valD l) 1073741824 := by
  induction l using snocInd with
  | h0 => show (0 : Int) = min 0 1073741824;omega
  | hs l d ih =>
    have h1 := valD_nonneg l fun b hb => h b (List.mem_append_left _ hb)
    have h2 := dgv_rng (h d (List.mem_append_right _ List.mem_cons_self))
    rw [dgsN_snoc, valD_snoc, ih fun b hb => h b (List.mem_append_left _ hb)]
    omega
theorem dec_small {u : Nat} (h : u < 10) : decDigits u = [UInt8.ofNat (48 + u)] := by rw [decDigits, dif_pos h]
theorem dec_big {u : Nat} (h : ¬ u < 10) : decDigits u = decDigits (u / 10) ++ [UInt8.ofNat (48 + u % 10)] := by rw [decDigits, dif_neg h]
theorem dg_ofNat {k : Nat} (h : k < 10) : isDg (UInt8.ofNat (48 + k)) = true ∧ dgv (UInt8.ofNat (48 + k)) = k := by
  have e := ofNat_toNat (k := 48 + k) (by omega)
  unfold isDg dgv
  rw [e]
  constructor
  · simp;omega
  · omega
theorem dec_facts (u : Nat) : (∀ b ∈ decDigits u, isDg b = true) ∧ 1 ≤ (decDigits u).length ∧ (1 < (decDigits u).length → (decDigits u).getD 0 0 ≠ 48) ∧ valD (decDigits u) = u ∧ (0 < u → (decDigits u).getD 0 0 ≠ 48) := by
  induction u using Nat.strongRecOn with
  | _ u ih =>
    by_cases h : u < 10
    · rw [dec_small h]
      obtain ⟨h1, h2⟩ := dg_ofNat h
      refine ⟨fun b hb => ?_, by simp, fun hh => by simp at hh, ?_, fun h0 => ?_⟩
      · rw [List.mem_singleton] at hb; subst hb; exact h1
      · show 10 * 0 + dgv _ = (u : Int)
        rw [h2];omega
      · show UInt8.ofNat (48 + u) ≠ 48
        intro e
        have := congrArg UInt8.toNat e
        rw [ofNat_toNat (by omega)] at this
        have e48 : (48 : UInt8).toNat = 48 := rfl
        omega
    · rw [dec_big h]
      obtain ⟨g1, g2, g3, g4, g5⟩ := ih (u / 10) (by omega)
      obtain ⟨h1, h2⟩ := dg_ofNat (k := u % 10) (by omega)
      have hh : (decDigits (u / 10) ++ [UInt8.ofNat (48 + u % 10)]).getD 0 0 ≠ 48 := by
        rw [List.getD_eq_getElem?_getD, List.getElem?_append_left (by omega), ← List.getD_eq_getElem?_getD]
        exact g5 (by omega)
      refine ⟨fun b hb => ?_, by simp, fun _ => hh, ?_, fun _ => hh⟩
      · rcases List.mem_append.1 hb with hb | hb
        · exact g1 b hb
        · rw [List.mem_singleton] at hb; subst hb; exact h1
      · rw [valD_snoc, g4, h2];omega
theorem itoa_pos (u : Nat) : itoa (u : Int) = decDigits u := by
  unfold itoa
  rw [if_neg (by omega), Int.toNat_natCast]
theorem dec_four (r : Nat) (h : r < 1000) : (decDigits (1000 + r)).drop 1 = [UInt8.ofNat (48 + r / 100), UInt8.ofNat (48 + r / 10 % 10), UInt8.ofNat (48 + r % 10)] := by
  rw [dec_big (by omega), dec_big (by omega), dec_big (by omega), dec_small (by omega)]
  rw [show (1000 + r) % 10 = r % 10 by omega, show (1000 + r) / 10 % 10 = r / 10 % 10 by omega, show (1000 + r) / 10 / 10 % 10 = r / 100 by omega]
  rfl
theorem trimB0 (l : List UInt8) (d : UInt8) (h : d ≠ 48) : trimRightB (l ++ [d]) 48 = l ++ [d] := by
  unfold trimRightB
  rw [List.reverse_append, List.reverse_singleton, List.singleton_append, List.dropWhile_cons, if_neg (by simpa using h)]
  simp
theorem trimB1 (l : List UInt8) : trimRightB (l ++ [48]) 48 = trimRightB l 48 := by
  unfold trimRightB
  rw [List.reverse_append, List.reverse_singleton, List.singleton_append, List.dropWhile_cons, if_pos (by decide)]
def frC (F : List UInt8) : Prop := (∀ b ∈ F, isDg b = true) ∧ 1 ≤ F.length ∧ F.length ≤ 3 ∧ F.getD (F.length - 1) 0 ≠ 48
theorem dgsF_1 (a : UInt8) : dgsF [a] = dgv a * 100 := by show 0 + dgv a * 100 = _;omega
theorem dgsF_2 (a b : UInt8) : dgsF [a, b] = dgv a * 100 + dgv b * 10 := by show 0 + dgv a * 100 + dgv b * 10 = _;omega
theorem dgsF_3 (a b c : UInt8) : dgsF [a, b, c] = dgv a * 100 + dgv b * 10 + dgv c := by show 0 + dgv a * 100 + dgv b * 10 + dgv c * 1 = _;omega
theorem digit_of {a : UInt8} (h : isDg a = true) {k : Nat} (hk : dgv a = k) : UInt8.ofNat (48 + k) = a := by
  have := isDg_rng h
  refine u8_eq ?_
  unfold dgv at hk
  rw [ofNat_toNat (by omega)];omega
theorem dgv_zero {a : UInt8} (h : isDg a = true) (hn : a ≠ 48) : 1 ≤ dgv a := by
  have := isDg_rng h
  have h3 : a.toNat ≠ 48 := fun e => hn (u8_eq e)
  unfold dgv;omega
theorem frac_of (F : List UInt8) (h : frC F) : ∃ r : Nat, 0 < r ∧ r < 1000 ∧ dgsF F = r ∧ trimRightB ((decDigits (1000 + r)).drop 1) 48 = F := by
  obtain ⟨hd, h1, h3, hz⟩ := h
  match F, hd, h1, h3, hz with
  | [a], hd, _, _, hz =>
    have ha := hd a (by simp)
    have r1 := dgv_rng ha
    have r2 := dgv_zero ha hz
    refine ⟨(dgv a * 100).toNat, by omega, by omega, by rw [dgsF_1];omega, ?_⟩
    rw [dec_four _ (by omega), digit_of ha (by omega), show (dgv a * 100).toNat / 10 % 10 = 0 by omega, show (dgv a * 100).toNat % 10 = 0 by omega]
    rw [show [a, UInt8.ofNat (48 + 0), UInt8.ofNat (48 + 0)] = ([] ++ [a]) ++ [48] ++ [48] from rfl, trimB1, trimB1, trimB0 _ _ (show a ≠ 48 from hz)]
    rfl
  | [a, b], hd, _, _, hz =>
    have ha := hd a (by simp)
    have hb := hd b (by simp)
    have r1 := dgv_rng ha
    have s1 := dgv_rng hb
    have r2 := dgv_zero hb hz
    refine ⟨(dgv a * 100 + dgv b * 10).toNat, by omega, by omega, by rw [dgsF_2];omega, ?_⟩
    rw [dec_four _ (by omega), digit_of ha (by omega), digit_of hb (by omega), show (dgv a * 100 + dgv b * 10).toNat % 10 = 0 by omega]
    rw [show [a, b, UInt8.ofNat (48 + 0)] = ([a] ++ [b]) ++ [48] from rfl, trimB1, trimB0 _ _ (show b ≠ 48 from hz)]
    rfl
  | [a, b, c], hd, _, _, hz =>
    have ha := hd a (by simp)
    have hb := hd b (by simp)
    have hc := hd c (by simp)
    have r1 := dgv_rng ha
    have s1 := dgv_rng hb
    have t1 := dgv_rng hc
    have r2 := dgv_zero hc hz
    refine ⟨(dgv a * 100 + dgv b * 10 + dgv c).toNat, by omega, by omega, by rw [dgsF_3];omega, ?_⟩
    rw [dec_four _ (by omega), digit_of ha (by omega), digit_of hb (by omega), digit_of hc (by omega)]
    exact trimB0 [a, b] c hz
theorem all1 {p : UInt8 → Prop} {x : UInt8} (h : p x) : ∀ b ∈ [x], p b := fun b hb => by
  rw [List.mem_singleton] at hb; subst hb; exact h
theorem all2 {p : UInt8 → Prop} {x y : UInt8} (h : p x) (k : p y) : ∀ b ∈ [x, y], p b := fun b hb => by
  rcases List.mem_cons.1 hb with rfl | hb
  · exact h
  · exact all1 k b hb
theorem all3 {p : UInt8 → Prop} {x y z : UInt8} (h : p x) (k : p y) (l : p z) : ∀ b ∈ [x, y, z], p b := fun b hb => by
  rcases List.mem_cons.1 hb with rfl | hb
  · exact h
  · exact all2 k l b hb
theorem frac_back (r : Nat) (h0 : 0 < r) (h : r < 1000) : frC (trimRightB ((decDigits (1000 + r)).drop 1) 48) ∧ dgsF (trimRightB ((decDigits (1000 + r)).drop 1) 48) = r := by
  rw [dec_four r h]
  obtain ⟨a1, a2⟩ := dg_ofNat (k := r / 100) (by omega)
  obtain ⟨b1, b2⟩ := dg_ofNat (k := r / 10 % 10) (by omega)
  obtain ⟨c1, c2⟩ := dg_ofNat (k := r % 10) (by omega)
  have n48 : ∀ k : Nat, k < 10 → 0 < k → UInt8.ofNat (48 + k) ≠ 48 := fun k hk hk0 e => by
    have := congrArg UInt8.toNat e
    rw [ofNat_toNat (by omega)] at this
    have e48 : (48 : UInt8).toNat = 48 := rfl
    omega
  by_cases hc : r % 10 = 0
  · by_cases hb : r / 10 % 10 = 0
    · rw [hc, hb]
      rw [show [UInt8.ofNat (48 + r / 100), UInt8.ofNat (48 + 0), UInt8.ofNat (48 + 0)] = ([] ++ [UInt8.ofNat (48 + r / 100)]) ++ [48] ++ [48] from rfl, trimB1, trimB1, trimB0 _ _ (n48 _ (by omega) (by omega))]
      refine ⟨⟨all1 a1, by simp, by simp, n48 _ (by omega) (by omega)⟩, ?_⟩
      · show dgsF [_] = _
        rw [dgsF_1, a2];omega
    · rw [hc]
      rw [show [UInt8.ofNat (48 + r / 100), UInt8.ofNat (48 + r / 10 % 10), UInt8.ofNat (48 + 0)] = ([UInt8.ofNat (48 + r / 100)] ++ [UInt8.ofNat (48 + r / 10 % 10)]) ++ [48] from rfl, trimB1, trimB0 _ _ (n48 _ (by omega) (by omega))]
      refine ⟨⟨all2 a1 b1, by simp, by simp, n48 _ (by omega) (by omega)⟩, ?_⟩
      · show dgsF [_, _] = _
        rw [dgsF_2, a2, b2];omega
  · rw [show [UInt8.ofNat (48 + r / 100), UInt8.ofNat (48 + r / 10 % 10), UInt8.ofNat (48 + r % 10)] = [UInt8.ofNat (48 + r / 100), UInt8.ofNat (48 + r / 10 % 10)] ++ [UInt8.ofNat (48 + r % 10)] from rfl, trimB0 _ _ (n48 _ (by omega) (by omega))]
    refine ⟨⟨all3 a1 b1 c1, by simp, by simp, n48 _ (by omega) (by omega)⟩, ?_⟩
    · show dgsF [_, _, _] = _
      rw [dgsF_3, a2, b2, c2];omega
end Go.Proofs.YtkimmlhcaanfjaaDoor
namespace Go.Proofs.YtkimmlhcaanfjaaDoor
open Go.RowKit Go.Lib
theorem all_takeWhile (l : List UInt8) : ∀ b ∈ dgs l, isDg b = true := by
  intro b hb
  unfold dgs at hb
  induction l with
  | nil => simp at hb
  | cons x xs ih =>
    rw [List.takeWhile_cons] at hb
    split at hb
    · rcases List.mem_cons.1 hb with rfl | hb
      · assumption
      · exact ih hb
    · simp at hb
theorem dgs_app (D r : List UInt8) (h : ∀ b ∈ D, isDg b = true) (hr : ∀ b, r.head? = some b → isDg b = false) : dgs (D ++ r) = D := by
  unfold dgs
  induction D with
  | nil =>
    cases r with
    | nil => rfl
    | cons x xs => rw [List.nil_append, List.takeWhile_cons, hr x rfl]; rfl
  | cons x xs ih =>
    rw [List.cons_append, List.takeWhile_cons, h x List.mem_cons_self, if_pos rfl, ih fun b hb => h b (List.mem_cons_of_mem _ hb)]
theorem dgs_self (D : List UInt8) (h : ∀ b ∈ D, isDg b = true) : dgs D = D := by
  have := dgs_app D [] h (fun b hb => by simp at hb)
  rwa [List.append_nil] at this
theorem dgs_split (l : List UInt8) : ∃ r, l = dgs l ++ r ∧ ∀ b, r.head? = some b → isDg b = false := by
  unfold dgs
  induction l with
  | nil => exact ⟨[], rfl, fun b hb => by simp at hb⟩
  | cons x xs ih =>
    rw [List.takeWhile_cons]
    split
    · obtain ⟨r, e, h⟩ := ih
      exact ⟨r, by rw [List.cons_append, ← e], h⟩
    · refine ⟨x :: xs, rfl, fun b hb => ?_⟩
      simp at hb; subst hb
      simpa using ‹¬ isDg x = true›
theorem dgs_full (l : List UInt8) (h : ¬ (dgs l).length < l.length) : dgs l = l ∧ ∀ b ∈ l, isDg b = true := by
  obtain ⟨r, e, _⟩ := dgs_split l
  have hr : r = [] := by
    have := congrArg List.length e
    rw [List.length_append] at this
    exact List.length_eq_zero_iff.1 (by omega)
  have e2 : dgs l = l := by rw [hr, List.append_nil] at e; exact e.symm
  exact ⟨e2, fun b hb => all_takeWhile l b (by rw [e2]; exact hb)⟩
structure Shp (s : List UInt8) (neg : Bool) (D fr : List UInt8) : Prop where
  eq : s = (if neg = true then [45] else []) ++ (D ++ (fr ++ [112, 116]))
  dig : ∀ b ∈ D, isDg b = true
  one : 1 ≤ D.length
  zero : 1 < D.length → D.getD 0 0 ≠ 48
  frac : fr = [] ∨ ∃ F, fr = 46 :: F ∧ frC F
def finR (neg : Bool) (v : Int) : Int × Int := if neg = true ∧ v = 0 then (0, 3) else if 1073741824 < v then (0, 2) else (if neg = true then -v else v, 0)
def valP (D fr : List UInt8) : Int := valD D * 1000 + dgsF fr.tail
theorem frac_rng {fr : List UInt8} (h : fr = [] ∨ ∃ F, fr = 46 :: F ∧ frC F) : 0 ≤ dgsF fr.tail ∧ dgsF fr.tail < 1000 := by
  rcases h with rfl | ⟨F, rfl, hF⟩
  · show 0 ≤ (0 : Int) ∧ (0 : Int) < 1000;omega
  · obtain ⟨r, h0, h1, h2, _⟩ := frac_of F hF
    show 0 ≤ dgsF F ∧ dgsF F < 1000
    omega
theorem fin_cap (neg : Bool) (v f C : Int) (hv : 0 ≤ v) (h0 : 0 ≤ f) (h1 : f < 1000) (hC : 1073741824 ≤ C) : finR neg (min v C * 1000 + f) = finR neg (v * 1000 + f) := by
  unfold finR
  by_cases h : v ≤ C
  · rw [show min v C = v by omega]
  · have hm : min v C = C := by omega
    have e1 : ¬ (neg = true ∧ C * 1000 + f = 0) := fun h => by have := h.2;omega
    have e2 : ¬ (neg = true ∧ v * 1000 + f = 0) := fun h => by have := h.2;omega
    have e3 : 1073741824 < C * 1000 + f := by omega
    have e4 : 1073741824 < v * 1000 + f := by omega
    rw [hm, if_neg e1, if_neg e2, if_pos e3, if_pos e4]
theorem hasPre (s p : List UInt8) : hasPrefix s p = true ↔ ∃ t, s = p ++ t := by
  unfold hasPrefix
  rw [List.isPrefixOf_iff_prefix]
  exact ⟨fun ⟨t, h⟩ => ⟨t, h.symm⟩, fun ⟨t, h⟩ => ⟨t, h.symm⟩⟩
theorem hasSuf (s p : List UInt8) : hasSuffix s p = true ↔ ∃ t, s = t ++ p := by
  unfold hasSuffix
  rw [List.isSuffixOf_iff_suffix]
  exact ⟨fun ⟨t, h⟩ => ⟨t, h.symm⟩, fun ⟨t, h⟩ => ⟨t, h.symm⟩⟩
theorem trimPre (p t : List UInt8) : trimPrefix (p ++ t) p = t := by
  unfold trimPrefix
  rw [if_pos ((hasPre _ _).2 ⟨t, rfl⟩), List.drop_left]
theorem trimSuf (p t : List UInt8) : trimSuffix (t ++ p) p = t := by
  unfold trimSuffix
  rw [if_pos ((hasSuf _ _).2 ⟨t, rfl⟩), List.length_append, Nat.add_sub_cancel, List.take_left]
theorem dig_no {b : UInt8} (h : isDg b = true) (c : UInt8) (hc : isDg c = false) : b ≠ c := fun e => by rw [e, hc] at h; cases h
theorem cut_hit (a b : List UInt8) (h : (46 : UInt8) ∉ a) : cut (a ++ 46 :: b) [46] = (a, b, true) := by
  rcases cut1 (a ++ 46 :: b) 46 with ⟨hno, _⟩ | ⟨a', b', e, hno, hc⟩
  · exact absurd (List.mem_append_right _ List.mem_cons_self) hno
  · have key : ∀ (x y x' y' : List UInt8), (46 : UInt8) ∉ x → (46 : UInt8) ∉ x' → x ++ 46 :: y = x' ++ 46 :: y' → x = x' ∧ y = y' := by
      intro x
      induction x with
      | nil =>
        intro y x' y' _ hx' he
        cases x' with
        | nil => exact ⟨rfl, by simpa using he⟩
        | cons c x' =>
          simp at he
          exact absurd (by rw [← he.1]; exact List.mem_cons_self) hx'
      | cons d x ih =>
        intro y x' y' hx hx' he
        cases x' with
        | nil =>
          simp at he
          exact absurd (by rw [he.1]; exact List.mem_cons_self) hx
        | cons c x' =>
          simp at he
          obtain ⟨h1, h2⟩ := ih y x' y' (fun hm => hx (List.mem_cons_of_mem _ hm)) (fun hm => hx' (List.mem_cons_of_mem _ hm)) he.2
          exact ⟨by rw [he.1, h1], h2⟩
    obtain ⟨h1, h2⟩ := key _ _ _ _ h hno e
    rw [hc, h1, h2]
theorem cut_miss (a : List UInt8) (h : (46 : UInt8) ∉ a) : cut a [46] = (a, [], false) := by
  rcases cut1 a 46 with ⟨_, e⟩ | ⟨a', b', e, _, _⟩
  · exact e
  · exact absurd (by rw [e]; exact List.mem_append_right _ List.mem_cons_self) h
theorem prs_shp {s : List UInt8} {neg : Bool} {D fr : List UInt8} (h : Shp s neg D fr) (hl : s.length ≤ 65536) : prsR s = finR neg (valP D fr) := by
  have hD := h.dig
  have hh : ∀ t, D ++ t ≠ [] ∧ (D ++ t).head? = D.head? := by
    intro t
    cases hDD : D with
    | nil => have := h.one; rw [hDD] at this; simp at this
    | cons a l => exact ⟨by simp, rfl⟩
  have hneg : hasPrefix s [45] = neg := by
    cases neg with
    | true => exact (hasPre _ _).2 ⟨_, h.eq⟩
    | false =>
      rw [Bool.eq_false_iff]
      intro hp
      obtain ⟨t, ht⟩ := (hasPre _ _).1 hp
      have he := h.eq
      rw [if_neg (by decide), List.nil_append, ht] at he
      have h2 := (hh (fr ++ [112, 116])).2
      rw [← he] at h2
      cases hDD : D with
      | nil => have := h.one; rw [hDD] at this; simp at this
      | cons a l =>
        rw [hDD] at h2
        simp at h2
        exact dig_no (hD a (by rw [hDD]; exact List.mem_cons_self)) 45 (by decide) h2.symm
  have hr1 : trimPrefix s [45] = D ++ (fr ++ [112, 116]) := by
    cases neg with
    | true => rw [h.eq, if_pos rfl]; exact trimPre _ _
    | false =>
      unfold trimPrefix
      rw [hneg, if_neg (by decide), h.eq, if_neg (by decide), List.nil_append]
  have hsuf : hasSuffix (D ++ (fr ++ [112, 116])) [112, 116] = true := (hasSuf _ _).2 ⟨D ++ fr, by rw [List.append_assoc]⟩
  have hr2 : trimSuffix (D ++ (fr ++ [112, 116])) [112, 116] = D ++ fr := by rw [← List.append_assoc]; exact trimSuf _ _
  have h46 : (46 : UInt8) ∉ D := fun hm => dig_no (hD _ hm) 46 (by decide) rfl
  have hz : ¬ (1 < D.length ∧ D.getD 0 0 = 48) := fun ⟨a, b⟩ => h.zero a b
  have h1 := h.one
  have hv := valD_nonneg D hD
  obtain ⟨f0, f1⟩ := frac_rng h.frac
  unfold prsR
  rw [if_neg (by omega)]
  simp only [hneg, hr1, hsuf, hr2]
  rcases h.frac with hfr | ⟨F, hfr, hF⟩
  · rw [hfr, List.append_nil, cut_miss D h46]
    simp only [dgs_self D hD]
    rw [if_neg (fun h => by rcases h with h | h | h | h; · cases h
                            · omega
                            · omega
                            · exact hz h)]
    simp only [Bool.false_eq_true, false_and, if_false]
    show finR neg (dgsN D * 1000) = finR neg (valD D * 1000 + 0)
    rw [dgsN_val D hD]
    have := fin_cap neg (valD D) 0 1073741824 hv (by omega) (by omega) (by omega)
    rw [← this, Int.add_zero]
  · rw [hfr, cut_hit D F h46]
    obtain ⟨g1, g2, g3, g4⟩ := hF
    simp only [dgs_self D hD, dgs_self F g1]
    rw [if_neg (fun h => by rcases h with h | h | h | h; · cases h
                            · omega
                            · omega
                            · exact hz h), if_neg (by rintro ⟨_, hx⟩; rcases hx with hx | hx | hx | hx <;> first | omega | exact g4 hx)]
    simp only [if_true]
    rw [hfr] at f0 f1
    show finR neg (dgsN D * 1000 + dgsF F) = finR neg (valD D * 1000 + dgsF F)
    rw [dgsN_val D hD]
    exact fin_cap neg (valD D) (dgsF F) 1073741824 hv f0 f1 (by omega)
theorem shp_prs (s : List UInt8) (hl : s.length ≤ 65536) : (∃ neg D fr, Shp s neg D fr) ∨ prsR s = (0, 3) := by
  unfold prsR
  rw [if_neg (by omega)]
  have hs1 : s = (if hasPrefix s [45] = true then [45] else []) ++ trimPrefix s [45] := by
    by_cases hp : hasPrefix s [45] = true
    · obtain ⟨t, rfl⟩ := (hasPre _ _).1 hp
      rw [if_pos hp, trimPre]
    · unfold trimPrefix
      rw [if_neg hp, if_neg hp, List.nil_append]
  generalize trimPrefix s [45] = r1 at *
  generalize hasPrefix s [45] = neg at *
  by_cases he : hasSuffix r1 [112, 116] = true
  rotate_left
  · right
    simp only []
    rw [if_pos (Or.inl (by simpa using he))]
  obtain ⟨r2, rfl⟩ := (hasSuf _ _).1 he
  simp only [trimSuf, he]
  rcases cut1 r2 46 with ⟨hno, hc⟩ | ⟨a, b, rfl, hno, hc⟩
  · simp only [hc]
    by_cases hg : (dgs r2).length = 0 ∨ (dgs r2).length < r2.length ∨ (1 < (dgs r2).length ∧ r2.getD 0 0 = 48)
    · right
      rw [if_pos (Or.inr hg)]
    · left
      obtain ⟨e, hd⟩ := dgs_full r2 (by omega)
      rw [e] at hg
      exact ⟨neg, r2, [], by rw [hs1]; rfl, hd, by omega, fun hx hy => hg (Or.inr (Or.inr ⟨hx, hy⟩)), Or.inl rfl⟩
  · simp only [hc]
    by_cases hg : (dgs a).length = 0 ∨ (dgs a).length < a.length ∨ (1 < (dgs a).length ∧ a.getD 0 0 = 48)
    · right
      rw [if_pos (Or.inr hg)]
    · obtain ⟨e, hd⟩ := dgs_full a (by omega)
      rw [if_neg (by rintro (h | h); · cases h
                     · exact hg h)]
      by_cases hg2 : (dgs b).length = 0 ∨ (dgs b).length < b.length ∨ 3 < (dgs b).length ∨ b.getD ((dgs b).length - 1) 0 = 48
      · right
        rw [if_pos ⟨by trivial, hg2⟩]
      · left
        obtain ⟨e2, hd2⟩ := dgs_full b (by omega)
        rw [e] at hg
        rw [e2] at hg2
        refine ⟨neg, a, 46 :: b, ?_, hd, by omega, fun hx hy => hg (Or.inr (Or.inr ⟨hx, hy⟩)), Or.inr ⟨b, rfl, hd2, by omega, by omega, fun hy => hg2 (Or.inr (Or.inr (Or.inr hy)))⟩⟩
        rw [hs1, List.append_assoc]
theorem dec_len : ∀ (k u : Nat), 1 ≤ k → u < 10 ^ k → (decDigits u).length ≤ k
  | 0, _, h, _ => absurd h (by decide)
  | k + 1, u, _, h => by
    by_cases hu : u < 10
    · rw [dec_small hu]; simp
    · rw [dec_big hu, List.length_append, List.length_singleton]
      have hk : 1 ≤ k := by
        cases k with
        | zero => simp at h;omega
        | succ k => omega
      have := dec_len k (u / 10) hk (by rw [Nat.pow_succ] at h;omega)
      omega
end Go.Proofs.YtkimmlhcaanfjaaDoor
namespace Go.Proofs.YtkimmlhcaanfjaaDoor
open Go.RowKit
def TbL (w : World) : Prop := Lib.TabIs Tryd.prog w "internal/strconv.uint64pow10" .u64 Lib.pow10Tab
theorem TbL.below {w w' : World} (h : TbL w) (hb : Below w.heap.size w w') : TbL w' := Lib.tabBelow_of_tabIs h w' hb
set_option maxRecDepth 100000 in
set_option maxHeartbeats 4000000 in
theorem itoa_sat (n : Int) (w : World) (ht : TbL w) (h0 : -9223372036854775808 ≤ n) (h1 : n ≤ 9223372036854775807) : SatV Tryd.prog 35 [.int .i64 n] w (.string (bOf (Lib.itoa n))) :=
  Sat.lib ⟨_, _, Tryd.func35, by kernel_rfl, rfl⟩ fun w1 hb => by
    refine (Tryd.strconv_Itoa n h0 h1 w1 (ht.below hb)).mono ?_
    rintro e w' ⟨rfl, k, os, rfl⟩
    exact ⟨_, [], rfl, ⟨Lib.below_grow _ w1 (Nat.le_refl _) k os, Lib.size_grow w1 k os, by simp, List.Pairwise.nil⟩, rfl, rfl⟩
set_option maxRecDepth 100000 in
set_option maxHeartbeats 4000000 in
theorem trimR_sat (l : List UInt8) (w : World) (hl : l.length ≤ 9223372036854775807) : SatV Tryd.prog 37 [.string (bOf l), .string ⟨#[48]⟩] w (.string (bOf (Lib.trimRightB l 48))) :=
  Sat.lib ⟨_, _, Tryd.func37, by kernel_rfl, rfl⟩ fun w1 hb => by
    refine (Tryd.strings_TrimRight_one (bOf l) 48 (by decide) w1 hl).mono ?_
    rintro e w' ⟨rfl, rfl⟩
    exact ⟨_, [], rfl, Hp.refl _, rfl, rfl⟩
theorem bOf_app (a b : List UInt8) : bOf a ++ bOf b = bOf (a ++ b) := by
  apply ByteArray.ext
  simp [bOf]
section
variable {P : Program} {n : Nat} {w0 : World} {K : Fm → List Res → Prop} {F : Fm} {L : List Res} {m : Md} {ops : Array Oper} {rest : List Oper} {d : Option Nat} {ty : TypeId} {pos : String} {aft : Array Edge}
theorem OKx_saddB {t ut : TypeId} {x y : Operand} {a b c : List UInt8} (hx : rv n F x = .string (bOf a)) (hy : rv n F y = .string (bOf b)) (hl : a.length + b.length ≤ 9223372036854775807) (hc : a ++ b = c)
    (k : OKx P n w0 m ops K rest (updo F d (.string (bOf c))) L) : OKx P n w0 m ops K (⟨d, .binOp .add t x y ut, ty, pos, aft, none⟩ :: rest) F L := by
  refine OKx_sadd hx hy hl ?_
  rw [bOf_app, hc]
  exact k
theorem OKx_sslL {t : TypeId} [T : TStr P t] {x lo : Operand} {s r : List UInt8} {l : Nat} {k : IntKind} (hx : rv n F x = .string (bOf s)) (hl : rv n F lo = .int k (l : Int)) (h1 : l ≤ s.length) (hr : s.drop l = r)
    (kk : OKx P n w0 m ops K rest (updo F d (.string (bOf r))) L) : OKx P n w0 m ops K (⟨d, .slice t x (some lo) none none, ty, pos, aft, none⟩ :: rest) F L :=
  OKx_still (fun w _ _ _ _ _ => by
    have h2 := run_sliceAt_string (P := P) (w := w) t (.string (bOf s)) (some (.int k (l : Int))) none none T.und
    have h3 := run_slice_string_l (P := P) w t (bOf s) T.und k (l : Int) (by omega) (by rw [bOf_size];omega)
    have e : (bOf s).extract l (bOf s).size = bOf r := by
      rw [Lib.extract_eq, data_bOf, bOf_size, List.take_of_length_le (by simp), hr]
      rfl
    rw [Int.toNat_natCast, e] at h3
    rw [h3] at h2
    simp [execOp, hx, hl, h2, Result.andThen]) kk
end
set_option maxRecDepth 100000 in
set_option maxHeartbeats 4000000 in
theorem Print_sat (n : Int) (w : World) (ht : TbL w) (h0 : -9223372036854775808 ≤ n) (h1 : n ≤ 9223372036854775807) : SatV Tryd.prog 13 [.int .i64 n] w (.tuple #[.string (bOf (prtR n).1), .int .i64 (prtR n).2]) := by
  by_cases hc : chk2 n = 0
  rotate_left
  · have hr : prtR n = ([], 2) := if_pos hc
    rw [hr]
    have hc2 := (chk2_bad hc).1
    refine SatL.of 35 [2, 3] Tryd.func13 (by kernel_rfl) (by kernel_rfl) rfl rfl rfl rfl ?_
    repeat' (first|(apply OK_seq)|(apply thenQ_n)|(apply OK_region)|(apply OKx_gc 15;exact rfl; refine OKx_callV (f := 15) (v := .int .i64 2) rfl rfl rfl (fun w1 hp => by have := chk_sat n w1; rwa [hc2] at this) ?_)|(apply OKx_nilK)|(apply OK_block)|(apply blockQ_n)|(apply blockQ_s)|(apply thenQ_e)|(apply blockQ_e;exact rfl)|(apply thenQ_r)|(apply blockQ_r)|(apply OK_condT;exact rfl)|(apply OK_condF;exact rfl)|(apply OK_skip)|(apply OK_exit)|(apply OK_ret)|(apply OKx_move;(conv=>lhs;whnf)<;>exact rfl)|(apply OKx_assign;(conv=>lhs;whnf)<;>exact rfl)|(apply OKx_lss;exact rfl;exact rfl;all_goals (intro _; try (exfalso;omega)))|(apply OKx_gtr;exact rfl;exact rfl;all_goals (intro _; try (exfalso;omega)))|(apply OKx_neq;exact rfl;exact rfl;all_goals (intro _; try (exfalso;omega)))|(apply OKx_inc;exact rfl;exact rfl;omega)|(apply OKx_addN;exact rfl;exact rfl;omega)|(apply OKx_add;exact rfl;exact rfl;omega;omega))
    refine bodyQ_r2 (by ((conv=>lhs;whnf)<;>exact rfl)) (by ((conv=>lhs;whnf)<;>exact rfl)) ?_
    exact ⟨_, Ent.nil, rfl, rfl⟩
  have hr : prtR n = (prtL n, 0) := if_neg (fun h => h hc)
  rw [hr]
  have hn := chk2_ok hc
  have hA : 0 ≤ absI n ∧ absI n ≤ 1073741824 := by unfold absI;omega
  have eq1 : (absI n).tdiv 1000 = absI n / 1000 := Int.tdiv_eq_ediv_of_nonneg hA.1
  have eq2 : (absI n).tmod 1000 = absI n % 1000 := Int.tmod_eq_emod_of_nonneg hA.1
  have hq : 0 ≤ absI n / 1000 ∧ absI n / 1000 ≤ 1073741 := by omega
  have hm : 0 ≤ absI n % 1000 ∧ absI n % 1000 ≤ 999 := by omega
  have hl1 : (Lib.itoa (absI n / 1000)).length ≤ 7 := by
    have e : absI n / 1000 = ((absI n / 1000).toNat : Int) := by omega
    rw [e, itoa_pos]
    exact dec_len 7 _ (by decide) (by omega)
  have hP : prtL n = ((if n < 0 then [45] else []) ++ Lib.itoa (absI n / 1000)) ++ prtF (absI n % 1000) ++ [112, 116] := rfl
  have hl2 : (Lib.itoa (1000 + absI n % 1000)).length ≤ 4 ∧ 1 ≤ (Lib.itoa (1000 + absI n % 1000)).length := by
    have e : 1000 + absI n % 1000 = ((1000 + (absI n % 1000).toNat : Nat) : Int) := by omega
    rw [e, itoa_pos]
    exact ⟨dec_len 4 _ (by decide) (by omega), (dec_facts _).2.1⟩
  have hl3 : (Lib.trimRightB ((Lib.itoa (1000 + absI n % 1000)).drop 1) 48).length ≤ 4 := by
    unfold Lib.trimRightB
    rw [List.length_reverse]
    refine Nat.le_trans ((List.dropWhile_sublist _).length_le) ?_
    rw [List.length_reverse, List.length_drop];omega
  have hF : 0 < absI n % 1000 → prtF (absI n % 1000) = 46 :: Lib.trimRightB ((Lib.itoa (1000 + absI n % 1000)).drop 1) 48 := fun h => if_pos h
  have hF0 : ¬ 0 < absI n % 1000 → prtF (absI n % 1000) = [] := fun h => if_neg h
  generalize hX : Lib.itoa (1000 + absI n % 1000) = X at *
  generalize hZ : Lib.itoa (absI n / 1000) = Z at *
  by_cases hlt : n < 0
  · rw [if_pos hlt] at hP
    refine SatL.of 35 [2, 3] Tryd.func13 (by kernel_rfl) (by kernel_rfl) rfl rfl rfl rfl ?_
    repeat' (first|(apply OK_seq)|(apply thenQ_n)|(apply OK_region)|(apply OKx_gc 15;exact rfl; refine OKx_callV (f := 15) (v := .int .i64 0) rfl rfl rfl (fun w1 hp => by have := chk_sat n w1; rwa [hc] at this) ?_)|(apply OKx_gc 36;exact rfl; refine OKx_callV (f := 36) rfl rfl rfl (fun w1 hp => abs_sat n w1 (by omega) (by omega)) ?_)|(apply OKx_gn; refine OKx_quo rfl rfl (by omega) (by omega) (by omega) ?_; rw [eq1])|(apply OKx_gn; refine OKx_rem rfl rfl (by omega) ?_; rw [eq2])|(apply OKx_gn; refine OKx_add rfl rfl (by omega) (by omega) ?_)|(apply OKx_gc 35;exact rfl; refine OKx_callV (f := 35) (v := .string (bOf Z)) rfl rfl rfl (fun w1 hp => by have := itoa_sat (absI n / 1000) w1 (ht.below hp.below) (by omega) (by omega); rwa [hZ] at this) ?_)|(apply OKx_gc 35;exact rfl; refine OKx_callV (f := 35) (v := .string (bOf X)) rfl rfl rfl (fun w1 hp => by have := itoa_sat (1000 + absI n % 1000) w1 (ht.below hp.below) (by omega) (by omega); rwa [hX] at this) ?_)|(refine OKx_sslL (l := 1) rfl rfl (by omega) rfl ?_)|(apply OKx_gc 37;exact rfl; refine OKx_callV (f := 37) rfl rfl rfl (fun w1 hp => trimR_sat (X.drop 1) w1 (by rw [List.length_drop];omega)) ?_)|(refine OKx_saddB rfl rfl (by simp only [List.length_append, List.length_cons, List.length_nil];omega) rfl ?_)|(apply OKx_nilK)|(apply OK_block)|(apply blockQ_n)|(apply blockQ_s)|(apply thenQ_e)|(apply blockQ_e;exact rfl)|(apply thenQ_r)|(apply blockQ_r)|(apply OK_condT;exact rfl)|(apply OK_condF;exact rfl)|(apply OK_skip)|(apply OK_exit)|(apply OK_ret)|(apply OKx_move;(conv=>lhs;whnf)<;>exact rfl)|(apply OKx_assign;(conv=>lhs;whnf)<;>exact rfl)|(apply OKx_lss;exact rfl;exact rfl;all_goals (intro _; try (exfalso;omega)))|(apply OKx_gtr;exact rfl;exact rfl;all_goals (intro _; try (exfalso;omega)))|(apply OKx_neq;exact rfl;exact rfl;all_goals (intro _; try (exfalso;omega)))|(apply OKx_inc;exact rfl;exact rfl;omega)|(apply OKx_addN;exact rfl;exact rfl;omega)|(apply OKx_add;exact rfl;exact rfl;omega;omega))
    · rename_i hh
      refine bodyQ_r2 (by ((conv=>lhs;whnf)<;>exact rfl)) (by ((conv=>lhs;whnf)<;>exact rfl)) ?_
      exact ⟨_, Ent.nil, by rw [hP, hF hh]; rfl, rfl⟩
    · rename_i hh
      refine bodyQ_r2 (by ((conv=>lhs;whnf)<;>exact rfl)) (by ((conv=>lhs;whnf)<;>exact rfl)) ?_
      exact ⟨_, Ent.nil, by rw [hP, hF0 (by omega), List.append_nil], rfl⟩
  · rw [if_neg hlt] at hP
    refine SatL.of 35 [2, 3] Tryd.func13 (by kernel_rfl) (by kernel_rfl) rfl rfl rfl rfl ?_
    repeat' (first|(apply OK_seq)|(apply thenQ_n)|(apply OK_region)|(apply OKx_gc 15;exact rfl; refine OKx_callV (f := 15) (v := .int .i64 0) rfl rfl rfl (fun w1 hp => by have := chk_sat n w1; rwa [hc] at this) ?_)|(apply OKx_gc 36;exact rfl; refine OKx_callV (f := 36) rfl rfl rfl (fun w1 hp => abs_sat n w1 (by omega) (by omega)) ?_)|(apply OKx_gn; refine OKx_quo rfl rfl (by omega) (by omega) (by omega) ?_; rw [eq1])|(apply OKx_gn; refine OKx_rem rfl rfl (by omega) ?_; rw [eq2])|(apply OKx_gn; refine OKx_add rfl rfl (by omega) (by omega) ?_)|(apply OKx_gc 35;exact rfl; refine OKx_callV (f := 35) (v := .string (bOf Z)) rfl rfl rfl (fun w1 hp => by have := itoa_sat (absI n / 1000) w1 (ht.below hp.below) (by omega) (by omega); rwa [hZ] at this) ?_)|(apply OKx_gc 35;exact rfl; refine OKx_callV (f := 35) (v := .string (bOf X)) rfl rfl rfl (fun w1 hp => by have := itoa_sat (1000 + absI n % 1000) w1 (ht.below hp.below) (by omega) (by omega); rwa [hX] at this) ?_)|(refine OKx_sslL (l := 1) rfl rfl (by omega) rfl ?_)|(apply OKx_gc 37;exact rfl; refine OKx_callV (f := 37) rfl rfl rfl (fun w1 hp => trimR_sat (X.drop 1) w1 (by rw [List.length_drop];omega)) ?_)|(refine OKx_saddB rfl rfl (by simp only [List.length_append, List.length_cons, List.length_nil];omega) rfl ?_)|(apply OKx_nilK)|(apply OK_block)|(apply blockQ_n)|(apply blockQ_s)|(apply thenQ_e)|(apply blockQ_e;exact rfl)|(apply thenQ_r)|(apply blockQ_r)|(apply OK_condT;exact rfl)|(apply OK_condF;exact rfl)|(apply OK_skip)|(apply OK_exit)|(apply OK_ret)|(apply OKx_move;(conv=>lhs;whnf)<;>exact rfl)|(apply OKx_assign;(conv=>lhs;whnf)<;>exact rfl)|(apply OKx_lss;exact rfl;exact rfl;all_goals (intro _; try (exfalso;omega)))|(apply OKx_gtr;exact rfl;exact rfl;all_goals (intro _; try (exfalso;omega)))|(apply OKx_neq;exact rfl;exact rfl;all_goals (intro _; try (exfalso;omega)))|(apply OKx_inc;exact rfl;exact rfl;omega)|(apply OKx_addN;exact rfl;exact rfl;omega)|(apply OKx_add;exact rfl;exact rfl;omega;omega))
    · rename_i hh
      refine bodyQ_r2 (by ((conv=>lhs;whnf)<;>exact rfl)) (by ((conv=>lhs;whnf)<;>exact rfl)) ?_
      exact ⟨_, Ent.nil, by rw [hP, hF hh, List.nil_append]; rfl, rfl⟩
    · rename_i hh
      refine bodyQ_r2 (by ((conv=>lhs;whnf)<;>exact rfl)) (by ((conv=>lhs;whnf)<;>exact rfl)) ?_
      exact ⟨_, Ent.nil, by rw [hP, hF0 (by omega), List.append_nil, List.nil_append], rfl⟩
end Go.Proofs.YtkimmlhcaanfjaaDoor
namespace Go.Proofs.YtkimmlhcaanfjaaDoor
open Go.RowKit
theorem Strs.take {w : World} {a : Option Addr} {n cap : Nat} {xs : List ByteArray} (h : Strs w (.slice a n cap) xs) (k cap' : Nat) (hk : k ≤ xs.length) (hcap : k ≤ cap') : Strs w (.slice a k cap') (xs.take k) := by
  obtain ⟨⟨hl, ⟨a', c', hv, hc⟩, _⟩, h2⟩ := h
  simp only [Value.slice.injEq] at hv
  obtain ⟨rfl, rfl, rfl⟩ := hv
  have hlen : (xs.take k).length = k := by rw [List.length_take];omega
  refine ⟨⟨by omega, ⟨a, cap', by rw [hlen], ?_⟩, fun a1 m c hv => ?_⟩, fun s hs => h2 s (List.mem_of_mem_take hs)⟩
  case refine_2 =>
    simp only [Value.slice.injEq] at hv
    omega
  rw [hlen]
  rcases hc with h0 | ⟨b, off, ha, hc⟩
  · left;omega
  · right
    refine ⟨b, off, ha, fun j hj => ?_⟩
    rw [hc j (by omega)]
    have : (xs.take k).getD j ByteArray.empty = xs.getD j ByteArray.empty := by
      simp only [List.getD_eq_getElem?_getD, List.getElem?_take, if_pos (show j < k by omega)]
    rw [this]
end Go.Proofs.YtkimmlhcaanfjaaDoor
namespace Go.Proofs.YtkimmlhcaanfjaaDoor
open Go.RowKit Go.Maps
def MxL (w : World) : Prop := ∃ m, w.cell? ⟨0, 0, none⟩ = some (.int .i64 m)
theorem MxL.below {w w' : World} (h : MxL w) (hb : Below w.heap.size w w') : MxL w' := by
  obtain ⟨m, hm⟩ := h
  refine ⟨m, ?_⟩
  rw [← hm]
  have hlt : 0 < w.heap.size := by
    unfold World.cell? at hm
    cases h : w.heap[0]? with
    | none => simp [h] at hm
    | some o => exact (Array.getElem?_eq_some_iff.1 h).1
  unfold World.cell?
  rw [hb.block _ hlt]
theorem mxl_of (w : World) (h : w.ShapedOpen Tryd.prog) : MxL w := cell_of_shapedOpen_int (zero := #[.int .i64 0]) (t := 3) h (of_decide_eq_true (by kernel_rfl)) (by kernel_rfl) rfl (by kernel_rfl) (by kernel_rfl) Tryd.underlying3
set_option maxRecDepth 100000 in
set_option maxHeartbeats 4000000 in
theorem cut_sat (s : ByteArray) (c : UInt8) (w : World) (hm : MxL w) (hs : s.size ≤ 4000000000) :
    SatV Tryd.prog 32 [.string s, .string ⟨#[c]⟩] w (.tuple #[.string (bOf (Lib.cut s.data.toList [c]).1), .string (bOf (Lib.cut s.data.toList [c]).2.1), .bool (Lib.cut s.data.toList [c]).2.2]) :=
  Sat.lib ⟨_, _, Tryd.func32, by kernel_rfl, rfl⟩ fun w1 hb => by
    obtain ⟨m, hm⟩ := hm.below hb
    refine (Tryd.strings_Cut s ⟨#[c]⟩ m w1 (by omega) hm).mono ?_
    rintro e w' ⟨rfl, n, rfl⟩
    exact ⟨_, [], rfl, (Hp.refl w1).drewN n, rfl, rfl⟩
end Go.Proofs.YtkimmlhcaanfjaaDoor
namespace Go.Proofs.YtkimmlhcaanfjaaDoor
open Go.RowKit
def fen : Option Nat → Fence
  | none => Fence.wide
  | some l => Fence.wide.inRound l
section
variable {P : Program} {ops : Array Oper}
theorem fen_fn (ro : Option Nat) (f : FuncId) : (fen ro).fn f := by cases ro <;> trivial
theorem fen_depth (ro : Option Nat) : (fen ro).depth = none := by cases ro <;> rfl
theorem fen_calls {ro : Option Nat} {f : FuncId} {args : Array Value} {w : World} {R : Ending → World → Prop} (h : Calls P f args w R) : CallsIn (fen ro) 0 P f args w R := by
  cases ro with
  | none => exact callsIn_wide.2 h
  | some l => exact CallsIn.inRound l (callsIn_wide.2 h)
theorem fen_rows {ro : Option Nat} {row : String} {args : Array Value} {w : World} {R : Value → World → Prop} (h : Rows P row args w R) : RowsIn (fen ro) 0 P row args w R := by
  have h1 : RowsIn Fence.wide 0 P row args w R := fun c cs _ => let ⟨v, w', r, s⟩ := h c cs; ⟨v, w', r, stepsIn_wide.2 s⟩
  cases ro with
  | none => exact h1
  | some l => exact fun c cs hr => h1 c cs (room_wide _)
def noDef (o : Oper) : Bool := match o.op with
  | .defer _ => false
  | _ => true
theorem noDef_ne {o : Oper} (h : noDef o = true) : ∀ c, o.op ≠ .defer c := by
  intro c e
  unfold noDef at h
  rw [e] at h
  cases h
theorem oper_in {ro : Option Nat} {o : Oper} {a : Act} {w : World} {K : Act → World → Prop} {Q Q' : Exit → Act → World → Prop} (hn : noDef o = true) (hp : ∀ c a w, ¬ Q (.panic c) a w) (ho : ¬ LetsOut Q) (h : o.wp P a w K Q) : o.wpIn (fen ro) 0 P a w K Q' := by
  refine ⟨fun f _ => fen_fn ro f, ?_⟩
  rw [Oper.semAt_eq _ _ _ (noDef_ne hn)]
  unfold Oper.wp at h
  have hd : (fen ro).depth.isSome = true → 1 ≤ 0 := by rw [fen_depth]; intro h; cases h
  generalize (execOp a.eval o).run P w = r at *
  cases r with
  | ok nx w' =>
    cases nx with
    | value v => exact h
    | skip => exact h
    | defer d => exact h
    | enter f args =>
      refine ⟨hd, fen_calls (Calls.mono h fun e w'' h => ?_)⟩
      cases e with
      | returned v => exact h
      | panicked c => exact absurd h (hp _ _ _)
      | outgrown => exact absurd h ho
    | row r args => exact ⟨hd, fen_rows h⟩
    | _ => exact h.elim
  | halt x w' =>
    cases x with
    | panic v => exact absurd h (hp _ _ _)
    | _ => exact h.elim
theorem list_in {ro : Option Nat} {C : World → Prop} {Q Q' : Exit → Act → World → Prop} (hp : ∀ c a w, ¬ Q (.panic c) a w) (ho : ¬ LetsOut Q) (rest : List Oper) (hq : ∀ a w, Q .normal a w → wpListIn (fen ro) 0 P ops Q' rest a w) :
    ∀ (l : List Oper) (a : Act) (w : World), l.all noDef = true → wpListC P ops C Q l a w → wpListIn (fen ro) 0 P ops Q' (l ++ rest) a w
  | [], a, w, _, h => hq a w h.2
  | o :: l, a, w, hn, h => by
    obtain ⟨_, h⟩ := h
    simp only [List.all_cons, Bool.and_eq_true] at hn
    rw [List.cons_append]
    unfold wpListIn
    split
    · rename_i hw
      rw [if_pos hw] at h
      exact oper_in hn.1 hp ho (Oper.wp_mono (fun a w h => list_in hp ho rest hq l a w hn.2 h) h)
    · rename_i hw
      rw [if_neg hw] at h
      exact ⟨fun f _ => fen_fn ro f, list_in hp ho rest hq l _ w hn.2 h⟩
end
section
variable (P : Program) (n : Nat) (w0 : World) (l : Nat)
def OKr (Q : Exit → Fm → List Res → Prop) (c : Code) (F : Fm) (L : List Res) : Prop :=
  ∀ w a, Fr n a F → Hp w0.heap.size w0 w L → c.wpIn (fen (some l)) 0 P (lift n w0 Q) a w
end
section
variable {P : Program} {n : Nat} {w0 : World} {ro : Nat} {Q : Exit → Fm → List Res → Prop} {K : Fm → List Res → Prop} {F : Fm} {L : List Res}
theorem OKr_seq {a b : Code} (h : OKr P n w0 ro (thenQ (fun F L => OKr P n w0 ro Q b F L) Q) a F L) : OKr P n w0 ro Q (.seq a b) F L := by
  intro w ac hf hp
  refine wpIn_seq (wpIn_mono (h w ac hf hp) ?_)
  rintro e a' w' ⟨F', L', h1, h2, h3⟩
  unfold thenQ at h3
  cases e with
  | normal => exact h3 w' a' h1 h2
  | _ => exact ⟨F', L', h1, h2, h3⟩
theorem OKr_skip (h : Q .normal F L) : OKr P n w0 ro Q .skip F L := fun _ _ hf hp => wpIn_skip ⟨F, L, hf, hp, h⟩
theorem OKr_exit {id : Nat} (h : Q (.exit id) F L) : OKr P n w0 ro Q (.exit id) F L := fun _ _ hf hp => wpIn_exit ⟨F, L, hf, hp, h⟩
theorem OKr_ret (h : Q .ret F L) : OKr P n w0 ro Q .ret F L := fun _ _ hf hp => wpIn_ret ⟨F, L, hf, hp, h⟩
theorem OKr_condT {c : Operand} {x y : Code} (hc : rv n F c = .bool true) (h : OKr P n w0 ro Q x F L) : OKr P n w0 ro Q (.cond c x y) F L :=
  fun w a hf hp => wpIn_cond_true (by rw [hf.eval]; exact hc) (h w a hf hp)
theorem OKr_condF {c : Operand} {x y : Code} (hc : rv n F c = .bool false) (h : OKr P n w0 ro Q y F L) : OKr P n w0 ro Q (.cond c x y) F L :=
  fun w a hf hp => wpIn_cond_false (by rw [hf.eval]; exact hc) (h w a hf hp)
theorem OKr_block {id : Nat} {c : Code} (h : OKr P n w0 ro (blockQ id Q) c F L) : OKr P n w0 ro Q (.block id c) F L := by
  intro w ac hf hp
  refine wpIn_block (wpIn_mono (h w ac hf hp) ?_)
  rintro e a' w' ⟨F', L', h1, h2, h3⟩
  cases e with
  | exit id' =>
    simp only [blockQ] at h3
    simp only [Exit.inBlock]
    by_cases he : id' = id
    · subst he
      rw [if_pos rfl]
      simp only [Nat.beq_refl, cond_true] at h3
      exact ⟨F', L', h1, h2, h3⟩
    · rw [if_neg he]
      have : Nat.beq id' id = false := beq_ne he
      rw [this] at h3
      exact ⟨F', L', h1, h2, h3⟩
  | _ =>
    unfold blockQ at h3
    exact ⟨F', L', h1, h2, h3⟩
theorem liftN_noPanic : ∀ c a w, ¬ liftN n w0 K (.panic c) a w := fun c a w h => by cases h.1
theorem liftN_noOut : ¬ LetsOut (liftN n w0 K) := by rintro ⟨a, w, h, _⟩; cases h
theorem OKr_region {id : Nat} {l : List Oper} (hn : l.all noDef = true) (h : OKx P n w0 (.seq []) l.toArray (Q .normal) l F L) : OKr P n w0 ro Q (.region id l.toArray false) F L := by
  intro w a hf hp
  have h1 := list_in (P := P) (ops := l.toArray) (ro := some ro) (Q := liftN n w0 (Q .normal)) (Q' := lift n w0 Q) liftN_noPanic liftN_noOut [] (fun a w h => (by obtain ⟨_, F', L', h1, h2, h3⟩ := h; exact ⟨F', L', h1, h2, h3⟩)) l a w hn (h.use w a hf hp)
  rw [List.append_nil] at h1
  exact wpIn_region_lit h1
end
section
variable {P : Program} {n : Nat} {w0 : World} {ro : Nat} {Q : Exit → Fm → List Res → Prop} {F : Fm} {L : List Res} {c : Code}
theorem OKr.use (h : OKr P n w0 ro Q c F L) : ∀ w a, Fr n a F → Hp w0.heap.size w0 w L → c.wpIn (fen (some ro)) 0 P (lift n w0 Q) a w := h
end
attribute [irreducible] OKr
def SatY (P : Program) (l : Nat) (args : List Value) (w0 : World) (L : List Res) (R : Value → List Res → Prop) : Prop :=
  ∀ w, Hp w0.heap.size w0 w L → ∃ fn tmps assign body, (Instr.yield l args.toArray).run P w = .ok (.round l fn tmps assign body) w ∧
    RoundIn Fence.wide 0 P l fn tmps assign body w fun e w' => ∃ v L', e = .returned v ∧ Hp w0.heap.size w0 w' L' ∧ R v L'
section
variable {P : Program} {n : Nat} {w0 : World} {Q : Exit → Fm → List Res → Prop} {F : Fm} {L : List Res}
theorem OK_regionY (k : Nat) {id : Nat} {l : List Oper} (l1 l2 : List Oper) {d : Option Nat} {fo : Operand} {args : Array Operand} {tt : Array TypeId} {ty : TypeId} {pos : String} {aft : Array Edge} (hl : l = l1 ++ ⟨d, .call { callee := .value fo, args := args, argTypes := tt }, ty, pos, aft, none⟩ :: l2) (hn : (l1.all noDef && l2.all noDef) = true)
    (h : OKx P n w0 (.seq []) l.toArray (fun F1 L1 => ∃ (y : Nat) (av : List Value) (R : Value → List Res → Prop), rv n F1 fo = .func (.yield y) #[] #[] ∧ args.toList.map (rv n F1) = av ∧ SatY P y av w0 L1 R ∧
      ∀ v L', R v L' → OKx P n w0 (.seq []) l.toArray (Q .normal) l2 (updo F1 d v) L') l1 F L) : OK P n w0 Q (.region id l.toArray false) F L := by
  rw [Bool.and_eq_true] at hn
  refine OK.mk' fun w a hf hp => (wpIn_wide (n := 0)).1 (wpIn_region_lit ?_)
  have key := list_in (P := P) (ops := l.toArray) (ro := none) (C := fun w => Hp w0.heap.size w0 w []) (Q := liftN n w0 _) (Q' := lift n w0 Q) liftN_noPanic liftN_noOut (⟨d, .call { callee := .value fo, args := args, argTypes := tt }, ty, pos, aft, none⟩ :: l2) ?_ l1 a w hn.1 (h.use w a hf hp)
  · rw [← hl] at key; exact key
  · rintro a1 w1 ⟨_, F1, L1, hf1, hp1, y, av, R, h1, h2, hy, h3⟩
    obtain ⟨fn, tmps, assign, body, hrun, hround⟩ := hy w1 hp1
    unfold wpListIn
    rw [if_pos (by rfl)]
    refine ⟨fun f _ => trivial, ?_⟩
    have hexec : ((⟨d, .call { callee := .value fo, args := args, argTypes := tt }, ty, pos, aft, none⟩ : Oper).semAt (fen none).round a1.eval).run P w1 = .ok (.round y fn tmps assign body) w1 := by
      have e : Array.map (rv n F1) args = av.toArray := by rw [← Array.toList_inj, ← h2]; simp
      have hr : (fen none).round = none := rfl
      rw [hr, Oper.semAt_none, hf1.eval]
      simp only [execOp, resolve, h1, Deferred.ofValue, Sem.run_bind, Sem.run_pure, Result.andThen, invoke, Array.empty_append, Array.append_empty, e, hrun]
    rw [hexec]
    refine ⟨fun h => (by cases h), hround.mono ?_⟩
    rintro e w2 ⟨v, L', rfl, hp2, hR⟩
    have h4 := list_in (P := P) (ops := l.toArray) (ro := none) (Q := liftN n w0 (Q .normal)) (Q' := lift n w0 Q) liftN_noPanic liftN_noOut [] (fun a w h => (by obtain ⟨_, F', L', h1, h2, h3⟩ := h; exact ⟨F', L', h1, h2, h3⟩)) l2 _ w2 hn.2 ((h3 v L' hR).use w2 _ (hf1.put d v) hp2)
    rw [List.append_nil] at h4
    exact h4
end
end Go.Proofs.YtkimmlhcaanfjaaDoor
