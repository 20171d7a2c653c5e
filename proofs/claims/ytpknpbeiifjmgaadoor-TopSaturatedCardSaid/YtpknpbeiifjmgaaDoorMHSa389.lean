/-
  Part 9 of the proof: Name, Leaf, Stem, Stp, StemC. No statement of the seat is proved here.
-/
import Derived.Test.YtpknpbeiifjmgaaDoorMHSa388
import Derived.Deep.QuietTactic
import Derived.BigQuiet
namespace Go.Proofs.YtpknpbeiifjmgaaDoor
open Go.RowKit
set_option maxRecDepth 100000 in
set_option maxHeartbeats 2000000 in
theorem right_any (s : ByteArray) (w : World) (hs : s.size ≤ 65536) :
    Calls Tryd.prog 93 #[.string s] w fun e w' => ∃ v bs, e = .returned v ∧ bs.length = s.size ∧ Hp w.heap.size w w' [.row 4 1 v s.size (bools bs)] := by
  go_enter Tryd.func93, Tryd.ntmps93
  go_wp2
  go_loopw [3, 4] (fun v i wr => ∃ (k : Nat) (bs : List Bool), k ≤ s.size ∧ i = .int .i64 k ∧ bs.length = k ∧ Hp w.heap.size w wr [.row 4 1 v k (bools bs)])
     (fun _ i _ => s.size - (intOf i).toNat)
  case atStart => exact ⟨0, [], by omega, rfl, rfl, (Hp.refl w).lit 4 1 #[] 0 (by decide) rfl⟩
  case round =>
    obtain ⟨k, bs, hk, rfl, hbs, hp⟩ := hrel
    have HB := Lib.hid hbs; clear hbs
    by_cases hlt : k < s.size
    · by_cases hk0 : 0 < k
      · obtain ⟨g, c, rfl⟩ := hp.rowForm 0 rfl hk0
        obtain ⟨rc, rf, rb, rl⟩ := hp.rowAt 0 rfl
        have e0 := rc (k - 1) (by omega)
        rw [bools_get _ _ (by rw [HB.out];omega)] at e0
        clear rc rf
        generalize bs.getD (k - 1) false = b0 at *
        go_wp2_with (first
          | (go_at_call 82; refine (rkindB_any _ _).mono ?_; rintro e w' ⟨rfl, rfl⟩)
          | (at_builtin; refine wpList_append1_new rfl (.tmp 12) (.tmp 37) 23 rfl TBools hp 0 rfl rfl rfl rfl (by omega) (by omega) ?_; intro g1 c1 w1 hp1))
        all_goals
          go_roundw
          case rel =>
            refine ⟨k + 1, _, by omega, by go_num, ?_, by rw [← bools_snoc]; exact hp1⟩
            rw [List.length_append, HB.out]; rfl
          case measure => simp [intOf];omega
      · go_wp2_with (first
          | (go_at_call 82; refine (rkindB_any _ _).mono ?_; rintro e w' ⟨rfl, rfl⟩)
          | (at_builtin; refine wpList_append1_new rfl (.tmp 12) (.tmp 37) 23 rfl TBools hp 0 rfl rfl rfl rfl (by omega) (by omega) ?_; intro g1 c1 w1 hp1))
        all_goals
          go_roundw
          case rel =>
            refine ⟨k + 1, _, by omega, by go_num, ?_, by rw [← bools_snoc]; exact hp1⟩
            rw [List.length_append, HB.out]; rfl
          case measure => simp [intOf];omega
    · obtain rfl : k = s.size := by omega
      go_wp2
      go_ret
      exact ⟨_, _, rfl, HB.out, hp⟩
def Alln (s : ByteArray) : Prop := ∀ k, (h : k < s.size) → kindB s[k] = 1 ∨ kindB s[k] = 3
def ChkP (s : ByteArray) (w : World) (e : Ending) (w' : World) : Prop := ∃ n : Int, e = .returned (.int .i64 n) ∧ Hp w.heap.size w w' [] ∧ (Alln s → n = 0)
set_option maxRecDepth 100000 in
set_option maxHeartbeats 2000000 in
theorem rcheck_any (s : ByteArray) (w : World) (hs : s.size ≤ 65536) :
    Calls Tryd.prog 81 #[.string s] w (ChkP s w) := by
  go_enter Tryd.func81, Tryd.ntmps81
  go_wp2_with fail
  refine (right_any _ _ hs).mono ?_
  rintro e w1 ⟨v, bs, rfl, hbs, hp⟩
  have HB := Lib.hid hbs; clear hbs
  obtain ⟨a, cap, rfl, ha, _⟩ := hp.rowShape 0 rfl
  have HA := Lib.hid ha; clear ha
  go_wp2_with fail
  go_loop [4] (fun i => ∃ (k : Nat), k ≤ s.size ∧ i = .int .i64 k) (fun i => s.size - (intOf i).toNat)
  case atStart => exact ⟨0, by omega, rfl⟩
  case round =>
    obtain ⟨k, hk, rfl⟩ := hrel
    by_cases hlt : k < s.size
    · obtain ⟨g, rfl⟩ := HA.out (by omega)
      obtain ⟨rc, rf, rb, rl⟩ := hp.rowAt 0 rfl
      have e0 := rc k (by omega)
      rw [bools_get _ _ (by rw [HB.out];omega)] at e0
      clear rc rf
      generalize bs.getD k false = b0 at *
      have hno : (kindB s[k] = 0 ∨ kindB s[k] = 2) → ¬ Alln s := fun h ha => by
        have := ha k hlt
        omega
      have HNO := Lib.hid hno; clear hno
      go_wp2_with (go_at_call 82; refine (rkindB_any _ _).mono ?_; rintro e w' ⟨rfl, rfl⟩)
      · go_ret
        exact ⟨11, rfl, hp.none, fun h => absurd h (HNO.out (.inl ‹_›))⟩
      · go_ret
        exact ⟨11, rfl, hp.none, fun h => absurd h (HNO.out (.inr ‹_›))⟩
      all_goals
        go_round
        case rel => exact ⟨k + 1, by omega, by go_num⟩
        case measure => simp [intOf];omega
    · go_wp2_with fail
      go_ret
      exact ⟨0, rfl, hp.none, fun _ => rfl⟩
def WordP (s : ByteArray) (w : World) (e : Ending) (w' : World) : Prop := ∃ b : Bool, e = .returned (.bool b) ∧ Hp w.heap.size w w' [] ∧ (Alln s → 0 < s.size → s.size ≤ 64 → b = true) ∧ (s.size = 0 → b = false)
set_option maxRecDepth 100000 in
set_option maxHeartbeats 2000000 in
theorem rword_any (s : ByteArray) (w : World) (hs : s.size ≤ 140737488355328) :
    Calls Tryd.prog 57 #[.string s] w (WordP s w) := by
  by_cases h0 : s.size = 0
  · have h0' : s.size < 1 := by omega
    have H0 := Lib.hid h0; clear h0
    go_enter Tryd.func57, Tryd.ntmps57
    go_wp2_with fail
    go_ret
    exact ⟨false, rfl, Hp.refl _, fun _ h _ => absurd H0.out (by omega), fun _ => rfl⟩
  · by_cases h64 : s.size ≤ 64
    · go_enter Tryd.func57, Tryd.ntmps57
      go_wp2_with fail
      refine (rcheck_any _ _ (by omega)).mono ?_
      rintro e w1 ⟨n, rfl, hp, hn⟩
      have HN := Lib.hid hn; clear hn
      by_cases hn0 : n = 0
      · subst hn0
        have h00 : 0 < s.size := by omega
        by_cases h1 : kindB s[0] = 1
        · have e1 : (kindB s[0] != 1) = false := by simpa using h1
          have H1 := Lib.hid h1; clear h1
          go_wp2_with (go_at_call 82; refine (rkindB_any _ _).mono ?_; rintro e w' ⟨rfl, rfl⟩)
          go_loop [4] (fun i => ∃ (k : Nat), k ≤ s.size ∧ i = .int .i64 k) (fun i => s.size - (intOf i).toNat)
          case atStart => exact ⟨0, by omega, rfl⟩
          case round =>
            obtain ⟨k, hk, rfl⟩ := hrel
            by_cases hlt : k < s.size
            · have hno : 4 < kindB s[k] → ¬ Alln s := fun h ha => by
                have := ha k hlt
                omega
              have HNO := Lib.hid hno; clear hno
              go_wp2_with (go_at_call 82; refine (rkindB_any _ _).mono ?_; rintro e w' ⟨rfl, rfl⟩)
              · go_ret
                exact ⟨false, rfl, hp.none, fun h _ _ => absurd h (HNO.out ‹_›), fun _ => rfl⟩
              · go_round
                case rel => exact ⟨k + 1, by omega, by go_num⟩
                case measure => simp [intOf];omega
            · go_wp2_with fail
              go_ret
              exact ⟨true, rfl, hp.none, fun _ _ _ => rfl, fun h => absurd h (by omega)⟩
        · have e1 : (kindB s[0] != 1) = true := by simpa using h1
          by_cases h3 : kindB s[0] = 3
          · have e3 : (kindB s[0] != 3) = false := by simpa using h3
            have H1 := Lib.hid h1; clear h1
            have H3 := Lib.hid h3; clear h3
            go_wp2_with (go_at_call 82; refine (rkindB_any _ _).mono ?_; rintro e w' ⟨rfl, rfl⟩)
            go_loop [4] (fun i => ∃ (k : Nat), k ≤ s.size ∧ i = .int .i64 k) (fun i => s.size - (intOf i).toNat)
            case atStart => exact ⟨0, by omega, rfl⟩
            case round =>
              obtain ⟨k, hk, rfl⟩ := hrel
              by_cases hlt : k < s.size
              · have hno : 4 < kindB s[k] → ¬ Alln s := fun h ha => by
                  have := ha k hlt
                  omega
                have HNO := Lib.hid hno; clear hno
                go_wp2_with (go_at_call 82; refine (rkindB_any _ _).mono ?_; rintro e w' ⟨rfl, rfl⟩)
                · go_ret
                  exact ⟨false, rfl, hp.none, fun h _ _ => absurd h (HNO.out ‹_›), fun _ => rfl⟩
                · go_round
                  case rel => exact ⟨k + 1, by omega, by go_num⟩
                  case measure => simp [intOf];omega
              · go_wp2_with fail
                go_ret
                exact ⟨true, rfl, hp.none, fun _ _ _ => rfl, fun h => absurd h (by omega)⟩
          · have e3 : (kindB s[0] != 3) = true := by simpa using h3
            have hno : ¬ Alln s := fun ha => by
              have := ha 0 h00
              omega
            have HNO := Lib.hid hno; clear hno h1 h3
            go_wp2_with (go_at_call 82; refine (rkindB_any _ _).mono ?_; rintro e w' ⟨rfl, rfl⟩)
            go_ret
            exact ⟨false, rfl, hp.none, fun h _ _ => absurd h HNO.out, fun _ => rfl⟩
      · have hb : (n != 0) = true := by simpa using hn0
        go_wp2_with fail
        go_ret
        exact ⟨false, rfl, hp.none, fun h _ _ => absurd (HN.out h) hn0, fun _ => rfl⟩
    · go_enter Tryd.func57, Tryd.ntmps57
      go_wp2_with fail
      go_ret
      exact ⟨false, rfl, Hp.refl _, fun _ _ h => absurd h h64, fun _ => rfl⟩
theorem alln_lets (s : ByteArray) (h : lets (byts s) = s.size) : Alln s := by
  intro k hk
  have h1 : lets (byts s) = (byts s).length := by rw [byts_len]; exact h
  unfold lets at h1
  have h2 := List.countP_eq_length.1 h1 s[k] (by
    have : (byts s)[k]'(by rw [byts_len]; exact hk) ∈ byts s := List.getElem_mem _
    exact this)
  unfold alnum at h2
  simpa using h2
set_option maxRecDepth 100000 in
set_option maxHeartbeats 2000000 in
theorem rname_any (s : ByteArray) (w : World) (hs : s.size ≤ 140737488355328) :
    Calls Tryd.prog 30 #[.string s] w fun e w' => e = .returned (.bool (isNm s)) ∧ Hp w.heap.size w w' [] := by
  by_cases h16 : s.size ≤ 16
  · go_enter Tryd.func30, Tryd.ntmps30
    go_wp2_with fail
    refine (rword_any _ _ hs).mono ?_
    rintro e w1 ⟨b, rfl, hp, h1, h2⟩
    have H1 := Lib.hid h1; clear h1
    have H2 := Lib.hid h2; clear h2
    cases b with
    | false =>
      go_wp2_with fail
      go_ret
      refine ⟨ret_bool ?_, hp.none⟩
      cases hb : isNm s with
      | false => rfl
      | true =>
        simp only [isNm, Bool.and_eq_true, decide_eq_true_eq] at hb
        exact H1.out (alln_lets s hb.2.2) hb.1 (by omega)
    | true =>
      have h0 : 0 < s.size := by
        rcases Nat.eq_zero_or_pos s.size with h | h
        · exact absurd (H2.out h) (by simp)
        · exact h
      go_wp2_with (go_at_call 58; refine (rletters_any _ _ hs).mono ?_; rintro e w' ⟨rfl, rfl⟩)
      go_ret
      refine ⟨ret_bool ?_, hp.none⟩
      rw [isNm, decide_eq_true h0, decide_eq_true h16]
      simp only [Bool.true_and]
      rw [Bool.eq_iff_iff]
      simp only [beq_iff_eq, decide_eq_true_eq]
      omega
  · go_enter Tryd.func30, Tryd.ntmps30
    go_wp2_with fail
    go_ret
    refine ⟨ret_bool ?_, Hp.refl _⟩
    rw [isNm, decide_eq_false h16]
    simp
end Go.Proofs.YtpknpbeiifjmgaaDoor
namespace Go.Proofs.YtpknpbeiifjmgaaDoor
open Go.RowKit
def starB (s : ByteArray) : Bool := (byts s).getLast? == some 42
theorem starB_at (s : ByteArray) (h : 0 < s.size) : starB s = ((s[s.size - 1].toNat : Int) == 42) := by
  unfold starB
  have hl := byts_len s
  rw [List.getLast?_eq_getElem?, hl, List.getElem?_eq_getElem (by omega), byts_at s (s.size - 1) (by omega)]
  rw [Bool.eq_iff_iff]
  simp only [beq_iff_eq, Option.some.injEq]
  constructor
  · intro e; rw [e]; rfl
  · intro e
    apply UInt8.toNat_inj.1
    show _ = 42
    omega
theorem starB_nil (s : ByteArray) (h : s.size = 0) : starB s = false := by
  unfold starB
  have : byts s = [] := List.eq_nil_of_length_eq_zero (by rw [byts_len]; exact h)
  rw [this]; rfl
def leafNm (s : ByteArray) : Bool := if starB s then decide (s.size ≤ 16) && isNm (s.extract 0 (s.size - 1)) else isNm s
theorem extract_size (s : ByteArray) (n : Nat) (h : n ≤ s.size) : (s.extract 0 n).size = n := by
  rw [ByteArray.size_extract];omega
set_option maxRecDepth 100000 in
set_option maxHeartbeats 1000000 in
theorem leafName_any (s : ByteArray) (w : World) (hs : s.size ≤ 140737488355328) :
    Calls Tryd.prog 43 #[.string s] w fun e w' => e = .returned (.bool (leafNm s)) ∧ w = w' := by
  by_cases h0 : 0 < s.size
  · have hx := extract_size s (s.size - 1) (by omega)
    have HX := Lib.hid hx; clear hx
    have hst := starB_at s h0
    cases hb : starB s with
    | true =>
      rw [hb] at hst
      have hc : ((s[s.size - 1].toNat : Int) == 42) = true := hst.symm
      clear hst
      have HB := Lib.hid hb; clear hb
      by_cases h16 : s.size ≤ 16
      · go_enter Tryd.func43, Tryd.ntmps43
        go_wp2_with (go_at_call 68; refine (isName_any _ _ (by rw [HX.out];omega)).mono ?_; rintro e w' ⟨rfl, rfl⟩)
        go_ret
        exact ⟨ret_bool (by rw [leafNm, if_pos HB.out, decide_eq_true h16]; simp), rfl⟩
      · go_enter Tryd.func43, Tryd.ntmps43
        go_wp2_with fail
        go_ret
        exact ⟨ret_bool (by rw [leafNm, if_pos HB.out, decide_eq_false h16]; simp), rfl⟩
    | false =>
      rw [hb] at hst
      have hc : ((s[s.size - 1].toNat : Int) == 42) = false := hst.symm
      clear hst
      have HB := Lib.hid hb; clear hb
      go_enter Tryd.func43, Tryd.ntmps43
      go_wp2_with (go_at_call 68; refine (isName_any _ _ hs).mono ?_; rintro e w' ⟨rfl, rfl⟩)
      go_ret
      exact ⟨ret_bool (by rw [leafNm, if_neg (by rw [HB.out]; simp)]), rfl⟩
  · have hb := starB_nil s (by omega)
    have HB := Lib.hid hb; clear hb
    go_enter Tryd.func43, Tryd.ntmps43
    go_wp2_with (go_at_call 68; refine (isName_any _ _ hs).mono ?_; rintro e w' ⟨rfl, rfl⟩)
    go_ret
    exact ⟨ret_bool (by rw [leafNm, if_neg (by rw [HB.out]; simp)]), rfl⟩
set_option maxRecDepth 100000 in
set_option maxHeartbeats 1000000 in
theorem named_any (s : ByteArray) (w : World) (hs : s.size ≤ 140737488355328) :
    Calls Tryd.prog 19 #[.string s] w fun e w' => e = .returned (.bool (leafNm s)) ∧ Hp w.heap.size w w' [] := by
  by_cases h0 : 1 < s.size
  · have hx := extract_size s (s.size - 1) (by omega)
    have HX := Lib.hid hx; clear hx
    have hst := starB_at s (by omega)
    cases hb : starB s with
    | true =>
      rw [hb] at hst
      have hc : ((s[s.size - 1].toNat : Int) == 42) = true := hst.symm
      clear hst
      have HB := Lib.hid hb; clear hb
      by_cases h16 : s.size ≤ 16
      · go_enter Tryd.func19, Tryd.ntmps19
        go_wp2_with (go_at_call 30; refine (rname_any _ _ (by rw [HX.out];omega)).mono ?_; rintro e w' ⟨rfl, hp⟩)
        go_ret
        exact ⟨ret_bool (by rw [leafNm, if_pos HB.out, decide_eq_true h16]; simp), hp⟩
      · go_enter Tryd.func19, Tryd.ntmps19
        go_wp2_with fail
        go_ret
        exact ⟨ret_bool (by rw [leafNm, if_pos HB.out, decide_eq_false h16]; simp), Hp.refl _⟩
    | false =>
      rw [hb] at hst
      have hc : ((s[s.size - 1].toNat : Int) == 42) = false := hst.symm
      clear hst
      have HB := Lib.hid hb; clear hb
      go_enter Tryd.func19, Tryd.ntmps19
      go_wp2_with (go_at_call 30; refine (rname_any _ _ hs).mono ?_; rintro e w' ⟨rfl, hp⟩)
      go_ret
      exact ⟨ret_bool (by rw [leafNm, if_neg (by rw [HB.out]; simp)]), hp⟩
  · have hb : leafNm s = isNm s := by
      unfold leafNm
      cases hs : starB s with
      | false => rfl
      | true =>
        have h1 : s.size = 1 := by
          rcases Nat.eq_zero_or_pos s.size with h | h
          · rw [starB_nil s h] at hs; cases hs
          · omega
        have h2 : isNm (s.extract 0 (s.size - 1)) = false := by
          rw [isNm, extract_size s _ (by omega), h1]; rfl
        have h3 : isNm s = false := by
          have e : byts s = [42] := by
            have hl := byts_len s
            unfold starB at hs
            match hb : byts s with
            | [] => rw [hb] at hl; simp at hl;omega
            | [c] => rw [hb] at hs; simp at hs; rw [hs]
            | _ :: _ :: _ => rw [hb] at hl; simp at hl;omega
          have e2 : lets (byts s) = 0 := by rw [e]; decide
          rw [isNm, e2, h1]; rfl
        rw [h2, h3]; simp
    have HB := Lib.hid hb; clear hb
    go_enter Tryd.func19, Tryd.ntmps19
    go_wp2_with (go_at_call 30; refine (rname_any _ _ hs).mono ?_; rintro e w' ⟨rfl, hp⟩)
    go_ret
    exact ⟨ret_bool HB.out.symm, hp⟩
end Go.Proofs.YtpknpbeiifjmgaaDoor
namespace Go.Proofs.YtpknpbeiifjmgaaDoor
open Go.RowKit
def firstErr (f : Nat → Int) : Nat → Int
  | 0 => 0
  | n + 1 => if firstErr f n ≠ 0 then firstErr f n else f n
theorem firstErr_hit (f : Nat → Int) (k n : Nat) (h0 : firstErr f k = 0) (h1 : f k ≠ 0) (hk : k < n) : firstErr f n = f k := by
  induction n with
  | zero => omega
  | succ n ih =>
    rw [firstErr]
    rcases Nat.lt_or_ge k n with h | h
    · rw [ih h, if_pos h1]
    · obtain rfl : n = k := by omega
      rw [if_neg (by rw [h0]; simp)]
theorem firstErr_step (f : Nat → Int) (k : Nat) (h0 : firstErr f k = 0) (h1 : f k = 0) : firstErr f (k + 1) = 0 := by
  rw [firstErr, if_neg (by rw [h0]; simp), h1]
theorem firstErr_zero (f : Nat → Int) (n : Nat) (h : firstErr f n = 0) : ∀ k, k < n → f k = 0 := by
  induction n with
  | zero => intro k hk;omega
  | succ n ih =>
    rw [firstErr] at h
    by_cases h0 : firstErr f n = 0
    · rw [if_neg (by rw [h0]; simp)] at h
      intro k hk
      rcases Nat.lt_or_ge k n with h1 | h1
      · exact ih h0 k h1
      · obtain rfl : k = n := by omega
        exact h
    · rw [if_pos h0] at h; exact absurd h h0
def incB (xs : List Int) : Bool := decide (xs.Pairwise (· < ·))
theorem incB_of (xs : List Int) (h : ∀ j, 1 ≤ j → (hj : j < xs.length) → xs[j - 1] < xs[j]) : incB xs = true := by
  have key : ∀ d i, (hi : i + d + 1 < xs.length) → xs[i]'(by omega) < xs[i + d + 1] := by
    intro d
    induction d with
    | zero => intro i hi; have := h (i + 1) (by omega) hi; simpa using this
    | succ d ih =>
      intro i hi
      have h1 := ih i (by omega)
      have h2 := h (i + (d + 1) + 1) (by omega) hi
      simp only [Nat.add_sub_cancel] at h2
      have e : xs[i + (d + 1)]'(by omega) = xs[i + d + 1]'(by omega) := rfl
      omega
  unfold incB
  rw [decide_eq_true_eq, List.pairwise_iff_getElem]
  intro i j hi hj hij
  obtain ⟨d, rfl⟩ : ∃ d, j = i + d + 1 := ⟨j - i - 1, by omega⟩
  exact key d i hj
theorem incB_not (xs : List Int) (k : Nat) (h1 : 1 ≤ k) (hk : k < xs.length) (h : xs[k] ≤ xs[k - 1]) : incB xs = false := by
  unfold incB
  rw [decide_eq_false_iff_not, List.pairwise_iff_getElem]
  intro hp
  have := hp (k - 1) k (by omega) hk (by omega)
  omega
def rngB (xs : List Int) (i : Nat) : Bool := xs.any fun p => decide (p < 0) || decide ((i : Int) ≤ p)
def stAt (s : Stem) (i : Nat) : Int :=
  if leafNm (s.names.getD i ByteArray.empty) = false then 14
  else if Lib.containsS (s.names.take i) (s.names.getD i ByteArray.empty) = true then 7
  else if rngB (s.par.getD i []) i = true then 2
  else if incB (s.par.getD i []) = false then 10 else 0
def stCheck (s : Stem) : Int :=
  if s.names.length = 0 then 5 else if 64 < s.names.length then 4
  else if s.ext.length ≠ s.names.length ∨ s.par.length ≠ s.names.length then 9
  else firstErr (stAt s) s.names.length
theorem Strs.take {w : World} {a : Option Addr} {n cap : Nat} {xs : List ByteArray} (h : Strs w (.slice a n cap) xs) (k cap' : Nat) (hk : k ≤ xs.length) (hcap : k ≤ cap') : Strs w (.slice a k cap') (xs.take k) := by
  obtain ⟨⟨hl, ⟨a', c', hv, hc⟩, _⟩, h2⟩ := h
  simp only [Value.slice.injEq] at hv
  obtain ⟨rfl, rfl, rfl⟩ := hv
  have hlen : (xs.take k).length = k := by rw [List.length_take];omega
  refine ⟨⟨by omega, ⟨a, cap', by rw [hlen], ?_⟩, fun a1 m c hv => ?_⟩, fun s hs => h2 s (List.mem_of_mem_take hs)⟩
  case refine_2 =>
    simp only [Value.slice.injEq] at hv
    omega
  rw [hlen]
  rcases hc with h0 | ⟨b, off, ha, hc⟩
  · left;omega
  · right
    refine ⟨b, off, ha, fun j hj => ?_⟩
    rw [hc j (by omega)]
    have : (xs.take k).getD j ByteArray.empty = xs.getD j ByteArray.empty := by
      simp only [List.getD_eq_getElem?_getD, List.getElem?_take, if_pos (show j < k by omega)]
    rw [this]
set_option maxHeartbeats 1000000 in
theorem check1_any (x i : Int) (a : Addr) (w : World) (ha : w.cell? a = some (.int .i64 i)) :
    Calls Tryd.prog 45 #[.int .i64 x, .pointer (some a)] w fun e w' => e = .returned (.bool (decide (x < 0) || decide (i ≤ x))) ∧ w = w' := by
  by_cases h : x < 0
  · go_enter Tryd.func45, Tryd.ntmps45
    go_wp2
    go_ret
    exact ⟨ret_bool (by simp [h]), rfl⟩
  · by_cases h2 : i ≤ x
    · go_enter Tryd.func45, Tryd.ntmps45
      go_wp2
      go_ret
      exact ⟨ret_bool (by simp [h2]), rfl⟩
    · go_enter Tryd.func45, Tryd.ntmps45
      go_wp2
      go_ret
      exact ⟨ret_bool (by simp [h, h2]), rfl⟩
theorem check1_pred (i : Nat) (a : Addr) (w : World) (xs : List Int) (ha : w.cell? a = some (.int .i64 i)) : PredI 45 #[.pointer (some a)] w xs (fun p => decide (p < 0) || decide ((i : Int) ≤ p)) :=
  ⟨enters_of Tryd.func45 (by kernel_rfl) rfl, fun x _ w1 hq => (check1_any x i a w1 ((hq.cell a).trans ha)).mono fun e w' ⟨h1, h2⟩ => ⟨h1, Quiet.of_eq h2⟩⟩
theorem range_any (v : Value) (xs : List Int) (i : Nat) (a : Addr) (w : World) (h : Ints w v xs) (ha : w.cell? a = some (.int .i64 i)) :
    Calls Tryd.prog 44 #[v, .func (.func 45) #[] #[.pointer (some a)]] w fun e w' => e = .returned (.bool (rngB xs i)) ∧ Quiet w w' :=
  containsFunc_int v xs _ _ _ w h (check1_pred i a w xs ha)
end Go.Proofs.YtpknpbeiifjmgaaDoor
namespace Go.Proofs.YtpknpbeiifjmgaaDoor
def okPar (par : List (List Int)) : Prop := ∀ i, (h : i < par.length) → ∀ p ∈ par[i], 0 ≤ p ∧ p < i
theorem stCheck_len (s : Stem) (h : stCheck s = 0) : s.names.length ≠ 0 ∧ s.names.length ≤ 64 ∧ s.ext.length = s.names.length ∧ s.par.length = s.names.length ∧ firstErr (stAt s) s.names.length = 0 := by
  unfold stCheck at h
  by_cases h0 : s.names.length = 0
  · rw [if_pos h0] at h;omega
  rw [if_neg h0] at h
  by_cases h64 : 64 < s.names.length
  · rw [if_pos h64] at h;omega
  rw [if_neg h64] at h
  by_cases hl : s.ext.length ≠ s.names.length ∨ s.par.length ≠ s.names.length
  · rw [if_pos hl] at h;omega
  rw [if_neg hl] at h
  exact ⟨h0, by omega, by omega, by omega, h⟩
theorem stAt_zero (s : Stem) (i : Nat) (hi : i < s.names.length) (hp : i < s.par.length) (h : stAt s i = 0) :
    leafNm s.names[i] = true ∧ Lib.containsS (s.names.take i) s.names[i] = false ∧ (∀ p ∈ s.par[i], 0 ≤ p ∧ p < i) ∧ s.par[i].Pairwise (· < ·) := by
  have hst : stAt s i = if leafNm s.names[i] = false then 14 else if Lib.containsS (s.names.take i) s.names[i] = true then 7 else if rngB s.par[i] i = true then 2 else if incB s.par[i] = false then 10 else 0 := by
    rw [stAt]; simp [hi, hp]
  rw [hst] at h
  cases h1 : leafNm s.names[i] with
  | false => rw [if_pos h1] at h;omega
  | true =>
    rw [if_neg (by rw [h1]; simp)] at h
    cases h2 : Lib.containsS (s.names.take i) s.names[i] with
    | true => rw [if_pos h2] at h;omega
    | false =>
      rw [if_neg (by rw [h2]; simp)] at h
      cases h3 : rngB s.par[i] i with
      | true => rw [if_pos h3] at h;omega
      | false =>
        rw [if_neg (by rw [h3]; simp)] at h
        cases h4 : incB s.par[i] with
        | false => rw [if_pos h4] at h;omega
        | true =>
          refine ⟨rfl, rfl, fun p hp => ?_, by simpa [incB] using h4⟩
          rw [rngB, List.any_eq_false] at h3
          have := h3 p hp
          simp at this
          omega
theorem stCheck_okPar (s : Stem) (h : stCheck s = 0) : okPar s.par := by
  obtain ⟨_, _, _, hp, hf⟩ := stCheck_len s h
  intro i hi p hpi
  have h0 := firstErr_zero _ _ hf i (by omega)
  exact (stAt_zero s i (by omega) hi h0).2.2.1 p hpi
theorem asc_ge (xs : List Int) (h : xs.Pairwise (· < ·)) (h0 : ∀ x ∈ xs, 0 ≤ x) : ∀ (j : Nat) (hj : j < xs.length), (j : Int) ≤ xs[j] := by
  intro j
  induction j with
  | zero => intro hj; exact h0 _ (List.getElem_mem hj)
  | succ j ih =>
    intro hj
    have a := ih (by omega)
    have b := List.pairwise_iff_getElem.1 h j (j + 1) (by omega) hj (by omega)
    omega
theorem asc_len (xs : List Int) (h : xs.Pairwise (· < ·)) (n : Nat) (h0 : ∀ x ∈ xs, 0 ≤ x ∧ x < n) : xs.length ≤ n := by
  by_cases hl : xs.length = 0
  · omega
  have a := asc_ge xs h (fun x hx => (h0 x hx).1) (xs.length - 1) (by omega)
  have b := (h0 _ (List.getElem_mem (show xs.length - 1 < xs.length by omega))).2
  omega
theorem stCheck_inc (s : Stem) (h : stCheck s = 0) : ∀ i, i < s.par.length → (s.par.getD i []).Pairwise (· < ·) := by
  obtain ⟨_, _, _, hp, hf⟩ := stCheck_len s h
  intro i hi
  have h0 := firstErr_zero _ _ hf i (by omega)
  unfold stAt at h0
  split at h0
  · omega
  split at h0
  · omega
  split at h0
  · omega
  split at h0
  · omega
  · rename_i h1
    simpa [incB] using h1
end Go.Proofs.YtpknpbeiifjmgaaDoor
namespace Go.Proofs.YtpknpbeiifjmgaaDoor
open Go.RowKit
theorem stCheck_at (s : Stem) (k : Nat) (h0 : s.names.length ≠ 0) (h64 : ¬ 64 < s.names.length) (he : s.ext.length = s.names.length) (hp : s.par.length = s.names.length)
    (hk : k < s.names.length) (hf : firstErr (stAt s) k = 0) (e : Int) (hs : stAt s k = e) (hne : e ≠ 0) : stCheck s = e := by
  rw [stCheck, if_neg h0, if_neg h64, if_neg (by omega), firstErr_hit _ k _ hf (by rw [hs]; exact hne) hk, hs]
theorem stCheck_ok (s : Stem) (h0 : s.names.length ≠ 0) (h64 : ¬ 64 < s.names.length) (he : s.ext.length = s.names.length) (hp : s.par.length = s.names.length)
    (hf : firstErr (stAt s) s.names.length = 0) : stCheck s = 0 := by
  rw [stCheck, if_neg h0, if_neg h64, if_neg (by omega), hf]
set_option maxRecDepth 100000 in
set_option maxHeartbeats 4000000 in
theorem stCheck_any (v : Value) (s : Stem) (w : World) (h : Stm w v s) :
    Calls Tryd.prog 27 #[v] w fun e w' => e = .returned (.int .i64 (stCheck s)) ∧ Hp w.heap.size w w' [] := by
  obtain ⟨nv, ev, pv, rfl, hS, hE, hP⟩ := h
  obtain ⟨na, ncap, rfl, hnl, hN⟩ := hS.at
  obtain ⟨ea, ecap, rfl, hel, hE'⟩ := hE.at
  obtain ⟨pa, pcap, rfl, hpl, hP'⟩ := hP.at
  have hroom := hS.1.room _ _ _ rfl
  have HS := Lib.hid hS; clear hS
  have HN := Lib.hid hN; clear hN
  have HP := Lib.hid hP'; clear hP' hE' hE hP
  have hp0 := (Hp.refl w).box 26 #[.slice na s.names.length ncap, .slice ea s.ext.length ecap, .slice pa s.par.length pcap]
  by_cases h0 : s.names.length = 0
  · have e : stCheck s = 5 := by rw [stCheck, if_pos h0]
    have HE := Lib.hid e; clear e
    have hc : ((s.names.length : Int) == 0) = true := by rw [beq_iff_eq];omega
    have H0 := Lib.hid h0; clear h0
    go_enter Tryd.func27, Tryd.ntmps27
    go_wp2_with fail
    go_ret
    exact ⟨ret_int HE.out.symm, hp0.none⟩
  have hc : ((s.names.length : Int) == 0) = false := by rw [beq_eq_false_iff_ne];omega
  by_cases h64 : 64 < s.names.length
  · have e : stCheck s = 4 := by rw [stCheck, if_neg h0, if_pos h64]
    have HE := Lib.hid e; clear e
    go_enter Tryd.func27, Tryd.ntmps27
    go_wp2_with fail
    go_ret
    exact ⟨ret_int HE.out.symm, hp0.none⟩
  by_cases he : s.ext.length = s.names.length
  case neg =>
    have e : stCheck s = 9 := by rw [stCheck, if_neg h0, if_neg h64, if_pos (.inl he)]
    have HE := Lib.hid e; clear e
    have hc2 : ((s.ext.length : Int) != s.names.length) = true := by rw [bne_iff_ne];omega
    go_enter Tryd.func27, Tryd.ntmps27
    go_wp2_with fail
    go_ret
    exact ⟨ret_int HE.out.symm, hp0.none⟩
  by_cases hpp : s.par.length = s.names.length
  case neg =>
    have e : stCheck s = 9 := by rw [stCheck, if_neg h0, if_neg h64, if_pos (.inr hpp)]
    have HE := Lib.hid e; clear e
    have hc2 : ((s.ext.length : Int) != s.names.length) = false := by rw [bne_eq_false_iff_eq];omega
    have hc3 : ((s.par.length : Int) != s.names.length) = true := by rw [bne_iff_ne];omega
    have HH := Lib.hid he; clear he
    go_enter Tryd.func27, Tryd.ntmps27
    go_wp2_with fail
    go_ret
    exact ⟨ret_int HE.out.symm, hp0.none⟩
  have hc2 : ((s.ext.length : Int) != s.names.length) = false := by rw [bne_eq_false_iff_eq];omega
  have hc3 : ((s.par.length : Int) != s.names.length) = false := by rw [bne_eq_false_iff_eq];omega
  have HAT := Lib.hid (stCheck_at s · h0 h64 he hpp)
  have HOK := Lib.hid (stCheck_ok s h0 h64 he hpp)
  have HHE := Lib.hid he; clear he
  have HHP := Lib.hid hpp; clear hpp
  go_enter Tryd.func27, Tryd.ntmps27
  go_wp2_with fail
  go_loopw [32] (fun i wr => ∃ k : Nat, k ≤ s.names.length ∧ i = .int .i64 k ∧ Hid (firstErr (stAt s) k = 0) ∧
      Hp w.heap.size w wr [.box 26 w.heap.size [.slice na s.names.length ncap, .slice ea s.ext.length ecap, .slice pa s.par.length pcap]]) (fun i _ => s.names.length - (intOf i).toNat)
  case atStart => exact ⟨0, by omega, rfl, rfl, hp0⟩
  case round =>
    clear hp0
    obtain ⟨k, hk, rfl, hf, hp⟩ := hrel
    by_cases hlt : k < s.names.length
    · obtain ⟨bc, bf, bb, bl⟩ := hp.boxAt 0 rfl
      have b0 := bc 0
      have b2 := bc 2
      clear bc bf
      obtain ⟨hsz, nb, noff, rfl, hcell⟩ := HN.out k hlt
      have hcell := (hp.below.cell (World.block_lt_of_cell? w _ hcell)).trans hcell
      have hkp : k < s.par.length := by rw [HHP.out]; exact hlt
      obtain ⟨pb, poff, u, rfl, hpc, hpi⟩ := HP.out k hkp
      have hp1 := hp.box 3 #[.int .i64 k]
      have HPC := Lib.hid hpc
      have hpc := (hp1.below.cell (World.block_lt_of_cell? w _ hpc)).trans hpc
      obtain ⟨ra, rcap, rfl, hrl, hr⟩ := hpi.at
      have HPI := Lib.hid hpi; clear hpi
      have HR := Lib.hid hr; clear hr
      have hst : stAt s k = if leafNm s.names[k] = false then 14 else if Lib.containsS (s.names.take k) s.names[k] = true then 7 else if rngB s.par[k] k = true then 2 else if incB s.par[k] = false then 10 else 0 := by
        rw [stAt]; simp [hlt, hkp]
      have HST := Lib.hid hst; clear hst
      generalize hnm : s.names[k] = nm at *
      generalize hpk : s.par[k] = pk at *
      have HX1 := Lib.hid hnm; clear hnm
      have HX2 := Lib.hid hpk; clear hpk
      have HIB := Lib.hid ((hp1.boxAt 0 rfl).1 0)
      go_wp2_with fail
      refine (leafName_any nm _ hsz).mono ?_
      rintro e w1 ⟨rfl, rfl⟩
      cases hb : leafNm nm with
      | false =>
        go_wp2_with fail
        go_ret
        exact ⟨ret_int (HAT.out k hlt hf.out 14 (by rw [HST.out, if_pos hb]) (by decide)).symm, hp1.none⟩
      | true =>
        go_wp2_with fail
        refine (contains_str _ (s.names.take k) nm _ ((HS.out.take k _ hk (by omega)).below hp1.below)).mono ?_
        rintro e w1 ⟨rfl, rfl⟩
        cases hb2 : Lib.containsS (s.names.take k) nm with
        | true =>
          go_wp2_with fail
          go_ret
          exact ⟨ret_int (HAT.out k hlt hf.out 7 (by rw [HST.out, if_neg (by rw [hb]; simp), if_pos hb2]) (by decide)).symm, hp1.none⟩
        | false =>
          have HB := Lib.hid hb; clear hb
          have HB2 := Lib.hid hb2; clear hb2
          go_wp2_with fail
          refine (range_any _ pk k _ _ (HPI.out.below hp1.below) HIB.out).mono ?_
          rintro e w2 ⟨rfl, hq⟩
          have hp2 := hp1.quiet hq
          cases hb3 : rngB pk k with
          | true =>
            go_wp2_with fail
            go_ret
            exact ⟨ret_int (HAT.out k hlt hf.out 2 (by rw [HST.out, if_neg (by rw [HB.out]; simp), if_neg (by rw [HB2.out]; simp), if_pos hb3]) (by decide)).symm, hp2.none⟩
          | false =>
            have HB3 := Lib.hid hb3; clear hb3
            go_wp2_with fail
            obtain ⟨wo, rfl⟩ : ∃ wo : World, wo = wr := ⟨_, rfl⟩
            go_loopw [6] (fun i wi => ∃ j : Nat, 1 ≤ j ∧ i = .int .i64 j ∧ Hid (∀ m, 1 ≤ m → m < j → (hm : m < pk.length) → pk[m - 1]'(by omega) < pk[m]) ∧
                Hp w.heap.size w wi [.box 3 wo.heap.size [.int .i64 k], .box 26 w.heap.size [.slice (some ⟨nb, noff, none⟩) s.names.length ncap, .slice ea s.ext.length ecap, .slice (some ⟨pb, poff, none⟩) s.par.length pcap]]) (fun i _ => pk.length - (intOf i).toNat)
            case atStart => exact ⟨1, by omega, rfl, fun m h1 h2 => absurd h2 (by omega), hp2⟩
            case round =>
              clear hp2 hp1 hp hcell hpc
              obtain ⟨j, hj1, rfl, hinc, hp3⟩ := hrel
              obtain ⟨ic, icf, _, _⟩ := hp3.boxAt 0 rfl
              obtain ⟨bc, bcf, _, _⟩ := hp3.boxAt 1 rfl
              have c0 := ic 0
              have c2 := bc 2
              clear ic icf bc bcf
              have pc := (hp3.below.cell (World.block_lt_of_cell? w _ HPC.out)).trans HPC.out
              by_cases hjl : j < pk.length
              · obtain ⟨rb, roff, rfl, r0⟩ := HR.out j hjl
                obtain ⟨rb', roff', hra, r1⟩ := HR.out (j - 1) (by omega)
                simp only [Option.some.injEq, Addr.mk.injEq, and_true] at hra
                obtain ⟨rfl, rfl⟩ := hra
                have r0 := (hp3.below.cell (World.block_lt_of_cell? w _ r0)).trans r0
                have r1 := (hp3.below.cell (World.block_lt_of_cell? w _ r1)).trans r1
                by_cases hle : pk[j] ≤ pk[j - 1]
                · have hno := incB_not pk j hj1 hjl hle
                  have HNO := Lib.hid hno; clear hno
                  generalize pk[j] = pj at *
                  generalize pk[j - 1] = pj1 at *
                  go_wp2_with fail
                  go_quiet (fail)
                  go_wp2_with fail
                  go_ret
                  exact ⟨ret_int (HAT.out k hlt hf.out 10 (by rw [HST.out, if_neg (by rw [HB.out]; simp), if_neg (by rw [HB2.out]; simp), if_neg (by rw [HB3.out]; simp), if_pos HNO.out]) (by decide)).symm, (hp3.drewN _).none⟩
                · have HLT := Lib.hid (Int.not_le.1 hle)
                  go_wp2_with fail
                  go_quiet (fail)
                  go_wp2_with fail
                  go_roundw
                  case rel =>
                    refine ⟨j + 1, by omega, by go_num, fun m h1 h2 hm => ?_, hp3.drewN _⟩
                    rcases Nat.lt_or_ge m j with h3 | h3
                    · exact hinc.out m h1 h3 hm
                    · obtain rfl : m = j := by omega
                      exact HLT.out
                  case measure => simp [intOf];omega
              · have hinc2 := incB_of pk (fun m h1 hm => hinc.out m h1 (by omega) hm)
                have HI2 := Lib.hid hinc2; clear hinc2
                go_wp2_with fail
                go_roundw
                case rel =>
                  exact ⟨k + 1, by omega, by go_num, firstErr_step _ _ hf.out (by rw [HST.out, if_neg (by rw [HB.out]; simp), if_neg (by rw [HB2.out]; simp), if_neg (by rw [HB3.out]; simp), if_neg (by rw [HI2.out]; simp)]), hp3.drop1⟩
                case measure => simp [intOf];omega
    · obtain rfl : k = s.names.length := by omega
      go_wp2_with fail
      go_ret
      exact ⟨ret_int (HOK.out hf.out).symm, hp.none⟩
end Go.Proofs.YtpknpbeiifjmgaaDoor
