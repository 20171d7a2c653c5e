/-
  Walks of the reference's functions on names (apographref01). No statement of the seat is proved here.
-/
import Derived.Test.YtmclgfipdgmomaaChar
namespace Go.Proofs.Ytmclgfipdgmomaa
open Go.RowKit

set_option maxRecDepth 100000 in
set_option maxHeartbeats 2000000 in
theorem right_any (s : ByteArray) (w : World) (hs : s.size ≤ 65536) :
    Calls Try.prog 138 #[.string s] w fun e w' => ∃ v bs, e = .returned v ∧ bs.length = s.size ∧ Hp w.heap.size w w' [.row 4 1 v s.size (bools bs)] := by
  go_enter Try.func138, Try.ntmps138
  go_wp2
  go_loopw [3, 4] (fun v i wr => ∃ (k : Nat) (bs : List Bool), k ≤ s.size ∧ i = .int .i64 k ∧ bs.length = k ∧ Hp w.heap.size w wr [.row 4 1 v k (bools bs)])
     (fun _ i _ => s.size - (intOf i).toNat)
  case atStart => exact ⟨0, [], by omega, rfl, rfl, (Hp.refl w).lit 4 1 #[] 0 (by decide) rfl⟩
  case round =>
    obtain ⟨k, bs, hk, rfl, hbs, hp⟩ := hrel
    have HB := Lib.hid hbs; clear hbs
    by_cases hlt : k < s.size
    · by_cases hk0 : 0 < k
      · obtain ⟨g, c, rfl⟩ := hp.rowForm 0 rfl hk0
        obtain ⟨rc, rf, rb, rl⟩ := hp.rowAt 0 rfl
        have e0 := rc (k - 1) (by omega)
        rw [bools_get _ _ (by rw [HB.out]; omega)] at e0
        clear rc rf
        generalize bs.getD (k - 1) false = b0 at *
        go_wp2_with (first
          | (go_at_call 131; refine (rkindB_any _ _).mono ?_; rintro e w' ⟨rfl, rfl⟩)
          | (at_builtin; refine wpList_append1_new rfl (.tmp 12) (.tmp 37) 23 rfl TBools hp 0 rfl rfl rfl rfl (by omega) (by omega) ?_; intro g1 c1 w1 hp1))
        all_goals
          go_roundw
          case rel =>
            refine ⟨k + 1, _, by omega, by go_num, ?_, by rw [← bools_snoc]; exact hp1⟩
            rw [List.length_append, HB.out]; rfl
          case measure => simp [intOf]; omega
      · go_wp2_with (first
          | (go_at_call 131; refine (rkindB_any _ _).mono ?_; rintro e w' ⟨rfl, rfl⟩)
          | (at_builtin; refine wpList_append1_new rfl (.tmp 12) (.tmp 37) 23 rfl TBools hp 0 rfl rfl rfl rfl (by omega) (by omega) ?_; intro g1 c1 w1 hp1))
        all_goals
          go_roundw
          case rel =>
            refine ⟨k + 1, _, by omega, by go_num, ?_, by rw [← bools_snoc]; exact hp1⟩
            rw [List.length_append, HB.out]; rfl
          case measure => simp [intOf]; omega
    · obtain rfl : k = s.size := by omega
      go_wp2
      go_ret
      exact ⟨_, _, rfl, HB.out, hp⟩

def Alln (s : ByteArray) : Prop := ∀ k, (h : k < s.size) → kindB s[k] = 1 ∨ kindB s[k] = 3
def ChkP (s : ByteArray) (w : World) (e : Ending) (w' : World) : Prop := ∃ n : Int, e = .returned (.int .i64 n) ∧ Hp w.heap.size w w' [] ∧ (Alln s → n = 0)

set_option maxRecDepth 100000 in
set_option maxHeartbeats 2000000 in
theorem rcheck_any (s : ByteArray) (w : World) (hs : s.size ≤ 65536) :
    Calls Try.prog 130 #[.string s] w (ChkP s w) := by
  go_enter Try.func130, Try.ntmps130
  go_wp2_with fail
  refine (right_any _ _ hs).mono ?_
  rintro e w1 ⟨v, bs, rfl, hbs, hp⟩
  have HB := Lib.hid hbs; clear hbs
  obtain ⟨a, cap, rfl, ha, _⟩ := hp.rowShape 0 rfl
  have HA := Lib.hid ha; clear ha
  go_wp2_with fail
  go_loop [4] (fun i => ∃ (k : Nat), k ≤ s.size ∧ i = .int .i64 k) (fun i => s.size - (intOf i).toNat)
  case atStart => exact ⟨0, by omega, rfl⟩
  case round =>
    obtain ⟨k, hk, rfl⟩ := hrel
    by_cases hlt : k < s.size
    · obtain ⟨g, rfl⟩ := HA.out (by omega)
      obtain ⟨rc, rf, rb, rl⟩ := hp.rowAt 0 rfl
      have e0 := rc k (by omega)
      rw [bools_get _ _ (by rw [HB.out]; omega)] at e0
      clear rc rf
      generalize bs.getD k false = b0 at *
      have hno : (kindB s[k] = 0 ∨ kindB s[k] = 2) → ¬ Alln s := fun h ha => by
        have := ha k hlt
        omega
      have HNO := Lib.hid hno; clear hno
      go_wp2_with (go_at_call 131; refine (rkindB_any _ _).mono ?_; rintro e w' ⟨rfl, rfl⟩)
      · go_ret
        exact ⟨11, rfl, hp.none, fun h => absurd h (HNO.out (.inl ‹_›))⟩
      · go_ret
        exact ⟨11, rfl, hp.none, fun h => absurd h (HNO.out (.inr ‹_›))⟩
      all_goals
        go_round
        case rel => exact ⟨k + 1, by omega, by go_num⟩
        case measure => simp [intOf]; omega
    · go_wp2_with fail
      go_ret
      exact ⟨0, rfl, hp.none, fun _ => rfl⟩

def WordP (s : ByteArray) (w : World) (e : Ending) (w' : World) : Prop := ∃ b : Bool, e = .returned (.bool b) ∧ Hp w.heap.size w w' [] ∧ (Alln s → 0 < s.size → s.size ≤ 64 → b = true) ∧ (s.size = 0 → b = false)

set_option maxRecDepth 100000 in
set_option maxHeartbeats 2000000 in
theorem rword_any (s : ByteArray) (w : World) (hs : s.size ≤ 140737488355328) :
    Calls Try.prog 116 #[.string s] w (WordP s w) := by
  by_cases h0 : s.size = 0
  · have h0' : s.size < 1 := by omega
    have H0 := Lib.hid h0; clear h0
    go_enter Try.func116, Try.ntmps116
    go_wp2_with fail
    go_ret
    exact ⟨false, rfl, Hp.refl _, fun _ h _ => absurd H0.out (by omega), fun _ => rfl⟩
  · by_cases h64 : s.size ≤ 64
    · go_enter Try.func116, Try.ntmps116
      go_wp2_with fail
      refine (rcheck_any _ _ (by omega)).mono ?_
      rintro e w1 ⟨n, rfl, hp, hn⟩
      have HN := Lib.hid hn; clear hn
      by_cases hn0 : n = 0
      · subst hn0
        have h00 : 0 < s.size := by omega
        by_cases h1 : kindB s[0] = 1
        · have e1 : (kindB s[0] != 1) = false := by simpa using h1
          have H1 := Lib.hid h1; clear h1
          go_wp2_with (go_at_call 131; refine (rkindB_any _ _).mono ?_; rintro e w' ⟨rfl, rfl⟩)
          go_loop [4] (fun i => ∃ (k : Nat), k ≤ s.size ∧ i = .int .i64 k) (fun i => s.size - (intOf i).toNat)
          case atStart => exact ⟨0, by omega, rfl⟩
          case round =>
            obtain ⟨k, hk, rfl⟩ := hrel
            by_cases hlt : k < s.size
            · have hno : 4 < kindB s[k] → ¬ Alln s := fun h ha => by
                have := ha k hlt
                omega
              have HNO := Lib.hid hno; clear hno
              go_wp2_with (go_at_call 131; refine (rkindB_any _ _).mono ?_; rintro e w' ⟨rfl, rfl⟩)
              · go_ret
                exact ⟨false, rfl, hp.none, fun h _ _ => absurd h (HNO.out ‹_›), fun _ => rfl⟩
              · go_round
                case rel => exact ⟨k + 1, by omega, by go_num⟩
                case measure => simp [intOf]; omega
            · go_wp2_with fail
              go_ret
              exact ⟨true, rfl, hp.none, fun _ _ _ => rfl, fun h => absurd h (by omega)⟩
        · have e1 : (kindB s[0] != 1) = true := by simpa using h1
          by_cases h3 : kindB s[0] = 3
          · have e3 : (kindB s[0] != 3) = false := by simpa using h3
            have H1 := Lib.hid h1; clear h1
            have H3 := Lib.hid h3; clear h3
            go_wp2_with (go_at_call 131; refine (rkindB_any _ _).mono ?_; rintro e w' ⟨rfl, rfl⟩)
            go_loop [4] (fun i => ∃ (k : Nat), k ≤ s.size ∧ i = .int .i64 k) (fun i => s.size - (intOf i).toNat)
            case atStart => exact ⟨0, by omega, rfl⟩
            case round =>
              obtain ⟨k, hk, rfl⟩ := hrel
              by_cases hlt : k < s.size
              · have hno : 4 < kindB s[k] → ¬ Alln s := fun h ha => by
                  have := ha k hlt
                  omega
                have HNO := Lib.hid hno; clear hno
                go_wp2_with (go_at_call 131; refine (rkindB_any _ _).mono ?_; rintro e w' ⟨rfl, rfl⟩)
                · go_ret
                  exact ⟨false, rfl, hp.none, fun h _ _ => absurd h (HNO.out ‹_›), fun _ => rfl⟩
                · go_round
                  case rel => exact ⟨k + 1, by omega, by go_num⟩
                  case measure => simp [intOf]; omega
              · go_wp2_with fail
                go_ret
                exact ⟨true, rfl, hp.none, fun _ _ _ => rfl, fun h => absurd h (by omega)⟩
          · have e3 : (kindB s[0] != 3) = true := by simpa using h3
            have hno : ¬ Alln s := fun ha => by
              have := ha 0 h00
              omega
            have HNO := Lib.hid hno; clear hno h1 h3
            go_wp2_with (go_at_call 131; refine (rkindB_any _ _).mono ?_; rintro e w' ⟨rfl, rfl⟩)
            go_ret
            exact ⟨false, rfl, hp.none, fun h _ _ => absurd h HNO.out, fun _ => rfl⟩
      · have hb : (n != 0) = true := by simpa using hn0
        go_wp2_with fail
        go_ret
        exact ⟨false, rfl, hp.none, fun h _ _ => absurd (HN.out h) hn0, fun _ => rfl⟩
    · go_enter Try.func116, Try.ntmps116
      go_wp2_with fail
      go_ret
      exact ⟨false, rfl, Hp.refl _, fun _ _ h => absurd h h64, fun _ => rfl⟩

theorem alln_lets (s : ByteArray) (h : lets (byts s) = s.size) : Alln s := by
  intro k hk
  have h1 : lets (byts s) = (byts s).length := by rw [byts_len]; exact h
  unfold lets at h1
  have h2 := List.countP_eq_length.1 h1 s[k] (by
    have : (byts s)[k]'(by rw [byts_len]; exact hk) ∈ byts s := List.getElem_mem _
    exact this)
  unfold alnum at h2
  simpa using h2

set_option maxRecDepth 100000 in
set_option maxHeartbeats 2000000 in
theorem rname_any (s : ByteArray) (w : World) (hs : s.size ≤ 140737488355328) :
    Calls Try.prog 99 #[.string s] w fun e w' => e = .returned (.bool (isNm s)) ∧ Hp w.heap.size w w' [] := by
  by_cases h16 : s.size ≤ 16
  · go_enter Try.func99, Try.ntmps99
    go_wp2_with fail
    refine (rword_any _ _ hs).mono ?_
    rintro e w1 ⟨b, rfl, hp, h1, h2⟩
    have H1 := Lib.hid h1; clear h1
    have H2 := Lib.hid h2; clear h2
    cases b with
    | false =>
      go_wp2_with fail
      go_ret
      refine ⟨ret_bool ?_, hp.none⟩
      cases hb : isNm s with
      | false => rfl
      | true =>
        simp only [isNm, Bool.and_eq_true, decide_eq_true_eq] at hb
        exact H1.out (alln_lets s hb.2.2) hb.1 (by omega)
    | true =>
      have h0 : 0 < s.size := by
        rcases Nat.eq_zero_or_pos s.size with h | h
        · exact absurd (H2.out h) (by simp)
        · exact h
      go_wp2_with (go_at_call 117; refine (rletters_any _ _ hs).mono ?_; rintro e w' ⟨rfl, rfl⟩)
      go_ret
      refine ⟨ret_bool ?_, hp.none⟩
      rw [isNm, decide_eq_true h0, decide_eq_true h16]
      simp only [Bool.true_and]
      rw [Bool.eq_iff_iff]
      simp only [beq_iff_eq, decide_eq_true_eq]
      omega
  · go_enter Try.func99, Try.ntmps99
    go_wp2_with fail
    go_ret
    refine ⟨ret_bool ?_, Hp.refl _⟩
    rw [isNm, decide_eq_false h16]
    simp
end Go.Proofs.Ytmclgfipdgmomaa
