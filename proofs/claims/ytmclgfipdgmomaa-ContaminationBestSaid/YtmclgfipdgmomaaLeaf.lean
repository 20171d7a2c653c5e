/-
  Walks of the small functions of layer 36 (stemma, apographref36): names of nodes, places, lists. No statement of the seat is proved here.
-/
import Derived.Test.YtmclgfipdgmomaaLibf
import Derived.Test.YtmclgfipdgmomaaName
namespace Go.Proofs.Ytmclgfipdgmomaa
open Go.RowKit

/-- Does a string end with a star? -/
def starB (s : ByteArray) : Bool := (byts s).getLast? == some 42
theorem starB_at (s : ByteArray) (h : 0 < s.size) : starB s = ((s[s.size - 1].toNat : Int) == 42) := by
  unfold starB
  have hl := byts_len s
  rw [List.getLast?_eq_getElem?, hl, List.getElem?_eq_getElem (by omega), byts_at s (s.size - 1) (by omega)]
  rw [Bool.eq_iff_iff]
  simp only [beq_iff_eq, Option.some.injEq]
  constructor
  · intro e; rw [e]; rfl
  · intro e
    apply UInt8.toNat_inj.1
    show _ = 42
    omega
theorem starB_nil (s : ByteArray) (h : s.size = 0) : starB s = false := by
  unfold starB
  have : byts s = [] := List.eq_nil_of_length_eq_zero (by rw [byts_len]; exact h)
  rw [this]; rfl

/-- The name of a node of a stemma. -/
def leafNm (s : ByteArray) : Bool := if starB s then decide (s.size ≤ 16) && isNm (s.extract 0 (s.size - 1)) else isNm s

theorem extract_size (s : ByteArray) (n : Nat) (h : n ≤ s.size) : (s.extract 0 n).size = n := by
  rw [ByteArray.size_extract]; omega

set_option maxRecDepth 100000 in
set_option maxHeartbeats 1000000 in
theorem leafName_any (s : ByteArray) (w : World) (hs : s.size ≤ 140737488355328) :
    Calls Try.prog 79 #[.string s] w fun e w' => e = .returned (.bool (leafNm s)) ∧ w = w' := by
  by_cases h0 : 0 < s.size
  · have hx := extract_size s (s.size - 1) (by omega)
    have HX := Lib.hid hx; clear hx
    have hst := starB_at s h0
    cases hb : starB s with
    | true =>
      rw [hb] at hst
      have hc : ((s[s.size - 1].toNat : Int) == 42) = true := hst.symm
      clear hst
      have HB := Lib.hid hb; clear hb
      by_cases h16 : s.size ≤ 16
      · go_enter Try.func79, Try.ntmps79
        go_wp2_with (go_at_call 105; refine (isName_any _ _ (by rw [HX.out]; omega)).mono ?_; rintro e w' ⟨rfl, rfl⟩)
        go_ret
        exact ⟨ret_bool (by rw [leafNm, if_pos HB.out, decide_eq_true h16]; simp), rfl⟩
      · go_enter Try.func79, Try.ntmps79
        go_wp2_with fail
        go_ret
        exact ⟨ret_bool (by rw [leafNm, if_pos HB.out, decide_eq_false h16]; simp), rfl⟩
    | false =>
      rw [hb] at hst
      have hc : ((s[s.size - 1].toNat : Int) == 42) = false := hst.symm
      clear hst
      have HB := Lib.hid hb; clear hb
      go_enter Try.func79, Try.ntmps79
      go_wp2_with (go_at_call 105; refine (isName_any _ _ hs).mono ?_; rintro e w' ⟨rfl, rfl⟩)
      go_ret
      exact ⟨ret_bool (by rw [leafNm, if_neg (by rw [HB.out]; simp)]), rfl⟩
  · have hb := starB_nil s (by omega)
    have HB := Lib.hid hb; clear hb
    go_enter Try.func79, Try.ntmps79
    go_wp2_with (go_at_call 105; refine (isName_any _ _ hs).mono ?_; rintro e w' ⟨rfl, rfl⟩)
    go_ret
    exact ⟨ret_bool (by rw [leafNm, if_neg (by rw [HB.out]; simp)]), rfl⟩

set_option maxRecDepth 100000 in
set_option maxHeartbeats 1000000 in
theorem named_any (s : ByteArray) (w : World) (hs : s.size ≤ 140737488355328) :
    Calls Try.prog 70 #[.string s] w fun e w' => e = .returned (.bool (leafNm s)) ∧ Hp w.heap.size w w' [] := by
  by_cases h0 : 1 < s.size
  · have hx := extract_size s (s.size - 1) (by omega)
    have HX := Lib.hid hx; clear hx
    have hst := starB_at s (by omega)
    cases hb : starB s with
    | true =>
      rw [hb] at hst
      have hc : ((s[s.size - 1].toNat : Int) == 42) = true := hst.symm
      clear hst
      have HB := Lib.hid hb; clear hb
      by_cases h16 : s.size ≤ 16
      · go_enter Try.func70, Try.ntmps70
        go_wp2_with (go_at_call 99; refine (rname_any _ _ (by rw [HX.out]; omega)).mono ?_; rintro e w' ⟨rfl, hp⟩)
        go_ret
        exact ⟨ret_bool (by rw [leafNm, if_pos HB.out, decide_eq_true h16]; simp), hp⟩
      · go_enter Try.func70, Try.ntmps70
        go_wp2_with fail
        go_ret
        exact ⟨ret_bool (by rw [leafNm, if_pos HB.out, decide_eq_false h16]; simp), Hp.refl _⟩
    | false =>
      rw [hb] at hst
      have hc : ((s[s.size - 1].toNat : Int) == 42) = false := hst.symm
      clear hst
      have HB := Lib.hid hb; clear hb
      go_enter Try.func70, Try.ntmps70
      go_wp2_with (go_at_call 99; refine (rname_any _ _ hs).mono ?_; rintro e w' ⟨rfl, hp⟩)
      go_ret
      exact ⟨ret_bool (by rw [leafNm, if_neg (by rw [HB.out]; simp)]), hp⟩
  · have hb : leafNm s = isNm s := by
      unfold leafNm
      cases hs : starB s with
      | false => rfl
      | true =>
        have h1 : s.size = 1 := by
          rcases Nat.eq_zero_or_pos s.size with h | h
          · rw [starB_nil s h] at hs; cases hs
          · omega
        have h2 : isNm (s.extract 0 (s.size - 1)) = false := by
          rw [isNm, extract_size s _ (by omega), h1]; rfl
        have h3 : isNm s = false := by
          have e : byts s = [42] := by
            have hl := byts_len s
            unfold starB at hs
            match hb : byts s with
            | [] => rw [hb] at hl; simp at hl; omega
            | [c] => rw [hb] at hs; simp at hs; rw [hs]
            | _ :: _ :: _ => rw [hb] at hl; simp at hl; omega
          have e2 : lets (byts s) = 0 := by rw [e]; decide
          rw [isNm, e2, h1]; rfl
        rw [h2, h3]; simp
    have HB := Lib.hid hb; clear hb
    go_enter Try.func70, Try.ntmps70
    go_wp2_with (go_at_call 99; refine (rname_any _ _ hs).mono ?_; rintro e w' ⟨rfl, hp⟩)
    go_ret
    exact ⟨ret_bool HB.out.symm, hp⟩
end Go.Proofs.Ytmclgfipdgmomaa
