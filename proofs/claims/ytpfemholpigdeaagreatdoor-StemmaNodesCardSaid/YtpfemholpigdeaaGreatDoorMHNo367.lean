/-
  Part 7 of the proof: Char, Name, Leaf, Stem, Stp, Pw36, Stl. No statement of the seat is proved here.
-/
import Derived.Test.YtpfemholpigdeaaGreatDoorMHNo366
import Derived.Deep.Light
import Derived.Deep.QuietTactic
import Derived.BigQuiet
import Derived.StringKeys
namespace Go.Proofs.YtpfemholpigdeaaGreatDoor
open Go.RowKit
abbrev byts (s : ByteArray) : List UInt8 := s.data.toList
theorem byts_len (s : ByteArray) : (byts s).length = s.size := Array.length_toList
theorem byts_at (s : ByteArray) (k : Nat) (h : k < s.size) : (byts s)[k]'(by rw [byts_len]; exact h) = s[k] := rfl
def kindB (c : UInt8) : Int := kind c.toNat
theorem byte_bd (c : UInt8) : (0 : Int) ≤ (c.toNat : Int) ∧ (c.toNat : Int) ≤ 255 := by
  have := c.toNat_lt
  omega
def alnum (c : UInt8) : Bool := kindB c == 1 || kindB c == 3
def lets (l : List UInt8) : Nat := l.countP alnum
theorem lets_take (s : ByteArray) (k : Nat) (h : k < s.size) : lets ((byts s).take (k + 1)) = lets ((byts s).take k) + if alnum s[k] then 1 else 0 := by
  unfold lets
  rw [List.take_succ_eq_append_getElem (by rw [byts_len]; exact h), List.countP_append, byts_at s k h]
  by_cases ha : alnum s[k] = true
  · simp [ha]
  · simp [ha]
theorem lets_le (l : List UInt8) : lets l ≤ l.length := List.countP_le_length
theorem kindB_any (c : UInt8) (w : World) :
    Calls Tryz.prog 119 #[.int .u8 (c.toNat : Int)] w fun e w' => e = .returned (.int .i64 (kindB c)) ∧ w = w' :=
  kind_any _ (byte_bd c).1 (byte_bd c).2 w
theorem rkindB_any (c : UInt8) (w : World) :
    Calls Tryz.prog 121 #[.int .u8 (c.toNat : Int)] w fun e w' => e = .returned (.int .i64 (kindB c)) ∧ w = w' :=
  rkind_any _ (byte_bd c).1 (byte_bd c).2 w
set_option maxHeartbeats 1000000 in
theorem letters_any (s : ByteArray) (w : World) (hs : s.size ≤ 140737488355328) :
    Calls Tryz.prog 100 #[.string s] w fun e w' => e = .returned (.int .i64 (lets (byts s) : Nat)) ∧ w = w' := by
  go_enter Tryz.func100, Tryz.ntmps100
  go_wp2
  go_loop [3, 8] (fun n i => ∃ k : Nat, k ≤ s.size ∧ i = .int .i64 k ∧ n = .int .i64 (lets ((byts s).take k) : Nat)) (fun _ i => s.size - (intOf i).toNat)
  case atStart => exact ⟨0, Nat.zero_le _, rfl, rfl⟩
  case round =>
    obtain ⟨k, hk, rfl, rfl⟩ := hrel
    have hl := lets_le ((byts s).take k)
    have hl2 : ((byts s).take k).length ≤ k := List.length_take_le _ _
    by_cases hlt : k < s.size
    · have HS := Lib.hid (lets_take s k hlt)
      have hkb : alnum s[k] = (kindB s[k] == 1 || kindB s[k] == 3) := rfl
      have HK := Lib.hid hkb
      clear hkb
      go_wp2_with (go_at_call 119; refine (kindB_any _ _).mono ?_; rintro e w' ⟨rfl, rfl⟩)
      all_goals
        go_round
        case rel =>
          refine ⟨k + 1, by omega, by go_num, ?_⟩
          rw [HS.out, HK.out]
          go_light
          clear HS HK
          by_cases h1 : kindB s[k] = 1 <;> by_cases h3 : kindB s[k] = 3 <;> simp_all
        case measure => simp [intOf];omega
    · go_wp2
      go_ret
      exact ⟨ret_int (by rw [List.take_of_length_le (by rw [byts_len];omega)]), rfl⟩
set_option maxHeartbeats 1000000 in
theorem rletters_any (s : ByteArray) (w : World) (hs : s.size ≤ 140737488355328) :
    Calls Tryz.prog 102 #[.string s] w fun e w' => e = .returned (.int .i64 (lets (byts s) : Nat)) ∧ w = w' := by
  go_enter Tryz.func102, Tryz.ntmps102
  go_wp2
  go_loop [3, 4] (fun n i => ∃ k : Nat, k ≤ s.size ∧ i = .int .i64 k ∧ n = .int .i64 (lets ((byts s).take k) : Nat)) (fun _ i => s.size - (intOf i).toNat)
  case atStart => exact ⟨0, Nat.zero_le _, rfl, rfl⟩
  case round =>
    obtain ⟨k, hk, rfl, rfl⟩ := hrel
    have hl := lets_le ((byts s).take k)
    have hl2 : ((byts s).take k).length ≤ k := List.length_take_le _ _
    by_cases hlt : k < s.size
    · have HS := Lib.hid (lets_take s k hlt)
      have hkb : alnum s[k] = (kindB s[k] == 1 || kindB s[k] == 3) := rfl
      have HK := Lib.hid hkb
      clear hkb
      go_wp2_with (go_at_call 121; refine (rkindB_any _ _).mono ?_; rintro e w' ⟨rfl, rfl⟩)
      all_goals
        go_round
        case rel =>
          refine ⟨k + 1, by omega, by go_num, ?_⟩
          rw [HS.out, HK.out]
          go_light
          clear HS HK
          by_cases h1 : kindB s[k] = 1 <;> by_cases h3 : kindB s[k] = 3 <;> simp_all
        case measure => simp [intOf];omega
    · go_wp2
      go_ret
      exact ⟨ret_int (by rw [List.take_of_length_le (by rw [byts_len];omega)]), rfl⟩
theorem toList_nil (s : ByteArray) : s.toList = [] ↔ s.size = 0 := by
  rw [ByteArray.toList_eq]
  show byts s = [] ↔ s.size = 0
  rw [← List.length_eq_zero_iff, byts_len]
def isNm (s : ByteArray) : Bool := decide (0 < s.size) && (decide (s.size ≤ 16) && decide (lets (byts s) = s.size))
set_option maxHeartbeats 1000000 in
theorem isName_any (s : ByteArray) (w : World) (hs : s.size ≤ 140737488355328) :
    Calls Tryz.prog 81 #[.string s] w fun e w' => e = .returned (.bool (isNm s)) ∧ w = w' := by
  go_enter Tryz.func81, Tryz.ntmps81
  go_wp2_with (go_at_call 100; refine (letters_any _ _ hs).mono ?_; rintro e w' ⟨rfl, rfl⟩)
  · go_ret
    refine ⟨ret_bool ?_, rfl⟩
    have h0 := (toList_nil s).1 ‹_›
    simp [isNm, h0]
  · go_ret
    refine ⟨ret_bool ?_, rfl⟩
    have h0 : ¬ s.size = 0 := fun h => absurd ((toList_nil s).2 h) ‹_›
    have h1 : (s.size : Int) ≤ 16 := ‹_›
    have h2 : s.toList.isEmpty = false := by
      cases hh : s.toList with
      | nil => exact absurd ((toList_nil s).1 hh) h0
      | cons _ _ => rfl
    rw [h2, isNm, decide_eq_true (show 0 < s.size by omega), decide_eq_true (show s.size ≤ 16 by omega)]
    simp only [Bool.true_and, Bool.not_false]
    rw [Bool.eq_iff_iff]
    simp only [beq_iff_eq, decide_eq_true_eq]
    omega
  · go_ret
    refine ⟨ret_bool ?_, rfl⟩
    have h1 : 16 < (s.size : Int) := ‹_›
    rw [isNm, decide_eq_false (show ¬ s.size ≤ 16 by omega)]
    simp
end Go.Proofs.YtpfemholpigdeaaGreatDoor
namespace Go.Proofs.YtpfemholpigdeaaGreatDoor
open Go.RowKit
set_option maxRecDepth 100000 in
set_option maxHeartbeats 2000000 in
theorem right_any (s : ByteArray) (w : World) (hs : s.size ≤ 65536) :
    Calls Tryz.prog 136 #[.string s] w fun e w' => ∃ v bs, e = .returned v ∧ bs.length = s.size ∧ Hp w.heap.size w w' [.row 4 1 v s.size (bools bs)] := by
  go_enter Tryz.func136, Tryz.ntmps136
  go_wp2
  go_loopw [3, 4] (fun v i wr => ∃ (k : Nat) (bs : List Bool), k ≤ s.size ∧ i = .int .i64 k ∧ bs.length = k ∧ Hp w.heap.size w wr [.row 4 1 v k (bools bs)])
     (fun _ i _ => s.size - (intOf i).toNat)
  case atStart => exact ⟨0, [], by omega, rfl, rfl, (Hp.refl w).lit 4 1 #[] 0 (by decide) rfl⟩
  case round =>
    obtain ⟨k, bs, hk, rfl, hbs, hp⟩ := hrel
    have HB := Lib.hid hbs; clear hbs
    by_cases hlt : k < s.size
    · by_cases hk0 : 0 < k
      · obtain ⟨g, c, rfl⟩ := hp.rowForm 0 rfl hk0
        obtain ⟨rc, rf, rb, rl⟩ := hp.rowAt 0 rfl
        have e0 := rc (k - 1) (by omega)
        rw [bools_get _ _ (by rw [HB.out];omega)] at e0
        clear rc rf
        generalize bs.getD (k - 1) false = b0 at *
        go_wp2_with (first
          | (go_at_call 121; refine (rkindB_any _ _).mono ?_; rintro e w' ⟨rfl, rfl⟩)
          | (at_builtin; refine wpList_append1_new rfl (.tmp 12) (.tmp 37) 23 rfl TBools hp 0 rfl rfl rfl rfl (by omega) (by omega) ?_; intro g1 c1 w1 hp1))
        all_goals
          go_roundw
          case rel =>
            refine ⟨k + 1, _, by omega, by go_num, ?_, by rw [← bools_snoc]; exact hp1⟩
            rw [List.length_append, HB.out]; rfl
          case measure => simp [intOf];omega
      · go_wp2_with (first
          | (go_at_call 121; refine (rkindB_any _ _).mono ?_; rintro e w' ⟨rfl, rfl⟩)
          | (at_builtin; refine wpList_append1_new rfl (.tmp 12) (.tmp 37) 23 rfl TBools hp 0 rfl rfl rfl rfl (by omega) (by omega) ?_; intro g1 c1 w1 hp1))
        all_goals
          go_roundw
          case rel =>
            refine ⟨k + 1, _, by omega, by go_num, ?_, by rw [← bools_snoc]; exact hp1⟩
            rw [List.length_append, HB.out]; rfl
          case measure => simp [intOf];omega
    · obtain rfl : k = s.size := by omega
      go_wp2
      go_ret
      exact ⟨_, _, rfl, HB.out, hp⟩
def Alln (s : ByteArray) : Prop := ∀ k, (h : k < s.size) → kindB s[k] = 1 ∨ kindB s[k] = 3
def ChkP (s : ByteArray) (w : World) (e : Ending) (w' : World) : Prop := ∃ n : Int, e = .returned (.int .i64 n) ∧ Hp w.heap.size w w' [] ∧ (Alln s → n = 0)
set_option maxRecDepth 100000 in
set_option maxHeartbeats 2000000 in
theorem rcheck_any (s : ByteArray) (w : World) (hs : s.size ≤ 65536) :
    Calls Tryz.prog 120 #[.string s] w (ChkP s w) := by
  go_enter Tryz.func120, Tryz.ntmps120
  go_wp2_with fail
  refine (right_any _ _ hs).mono ?_
  rintro e w1 ⟨v, bs, rfl, hbs, hp⟩
  have HB := Lib.hid hbs; clear hbs
  obtain ⟨a, cap, rfl, ha, _⟩ := hp.rowShape 0 rfl
  have HA := Lib.hid ha; clear ha
  go_wp2_with fail
  go_loop [4] (fun i => ∃ (k : Nat), k ≤ s.size ∧ i = .int .i64 k) (fun i => s.size - (intOf i).toNat)
  case atStart => exact ⟨0, by omega, rfl⟩
  case round =>
    obtain ⟨k, hk, rfl⟩ := hrel
    by_cases hlt : k < s.size
    · obtain ⟨g, rfl⟩ := HA.out (by omega)
      obtain ⟨rc, rf, rb, rl⟩ := hp.rowAt 0 rfl
      have e0 := rc k (by omega)
      rw [bools_get _ _ (by rw [HB.out];omega)] at e0
      clear rc rf
      generalize bs.getD k false = b0 at *
      have hno : (kindB s[k] = 0 ∨ kindB s[k] = 2) → ¬ Alln s := fun h ha => by
        have := ha k hlt
        omega
      have HNO := Lib.hid hno; clear hno
      go_wp2_with (go_at_call 121; refine (rkindB_any _ _).mono ?_; rintro e w' ⟨rfl, rfl⟩)
      · go_ret
        exact ⟨11, rfl, hp.none, fun h => absurd h (HNO.out (.inl ‹_›))⟩
      · go_ret
        exact ⟨11, rfl, hp.none, fun h => absurd h (HNO.out (.inr ‹_›))⟩
      all_goals
        go_round
        case rel => exact ⟨k + 1, by omega, by go_num⟩
        case measure => simp [intOf];omega
    · go_wp2_with fail
      go_ret
      exact ⟨0, rfl, hp.none, fun _ => rfl⟩
def WordP (s : ByteArray) (w : World) (e : Ending) (w' : World) : Prop := ∃ b : Bool, e = .returned (.bool b) ∧ Hp w.heap.size w w' [] ∧ (Alln s → 0 < s.size → s.size ≤ 64 → b = true) ∧ (s.size = 0 → b = false)
set_option maxRecDepth 100000 in
set_option maxHeartbeats 2000000 in
theorem rword_any (s : ByteArray) (w : World) (hs : s.size ≤ 140737488355328) :
    Calls Tryz.prog 101 #[.string s] w (WordP s w) := by
  by_cases h0 : s.size = 0
  · have h0' : s.size < 1 := by omega
    have H0 := Lib.hid h0; clear h0
    go_enter Tryz.func101, Tryz.ntmps101
    go_wp2_with fail
    go_ret
    exact ⟨false, rfl, Hp.refl _, fun _ h _ => absurd H0.out (by omega), fun _ => rfl⟩
  · by_cases h64 : s.size ≤ 64
    · go_enter Tryz.func101, Tryz.ntmps101
      go_wp2_with fail
      refine (rcheck_any _ _ (by omega)).mono ?_
      rintro e w1 ⟨n, rfl, hp, hn⟩
      have HN := Lib.hid hn; clear hn
      by_cases hn0 : n = 0
      · subst hn0
        have h00 : 0 < s.size := by omega
        by_cases h1 : kindB s[0] = 1
        · have e1 : (kindB s[0] != 1) = false := by simpa using h1
          have H1 := Lib.hid h1; clear h1
          go_wp2_with (go_at_call 121; refine (rkindB_any _ _).mono ?_; rintro e w' ⟨rfl, rfl⟩)
          go_loop [4] (fun i => ∃ (k : Nat), k ≤ s.size ∧ i = .int .i64 k) (fun i => s.size - (intOf i).toNat)
          case atStart => exact ⟨0, by omega, rfl⟩
          case round =>
            obtain ⟨k, hk, rfl⟩ := hrel
            by_cases hlt : k < s.size
            · have hno : 4 < kindB s[k] → ¬ Alln s := fun h ha => by
                have := ha k hlt
                omega
              have HNO := Lib.hid hno; clear hno
              go_wp2_with (go_at_call 121; refine (rkindB_any _ _).mono ?_; rintro e w' ⟨rfl, rfl⟩)
              · go_ret
                exact ⟨false, rfl, hp.none, fun h _ _ => absurd h (HNO.out ‹_›), fun _ => rfl⟩
              · go_round
                case rel => exact ⟨k + 1, by omega, by go_num⟩
                case measure => simp [intOf];omega
            · go_wp2_with fail
              go_ret
              exact ⟨true, rfl, hp.none, fun _ _ _ => rfl, fun h => absurd h (by omega)⟩
        · have e1 : (kindB s[0] != 1) = true := by simpa using h1
          by_cases h3 : kindB s[0] = 3
          · have e3 : (kindB s[0] != 3) = false := by simpa using h3
            have H1 := Lib.hid h1; clear h1
            have H3 := Lib.hid h3; clear h3
            go_wp2_with (go_at_call 121; refine (rkindB_any _ _).mono ?_; rintro e w' ⟨rfl, rfl⟩)
            go_loop [4] (fun i => ∃ (k : Nat), k ≤ s.size ∧ i = .int .i64 k) (fun i => s.size - (intOf i).toNat)
            case atStart => exact ⟨0, by omega, rfl⟩
            case round =>
              obtain ⟨k, hk, rfl⟩ := hrel
              by_cases hlt : k < s.size
              · have hno : 4 < kindB s[k] → ¬ Alln s := fun h ha => by
                  have := ha k hlt
                  omega
                have HNO := Lib.hid hno; clear hno
                go_wp2_with (go_at_call 121; refine (rkindB_any _ _).mono ?_; rintro e w' ⟨rfl, rfl⟩)
                · go_ret
                  exact ⟨false, rfl, hp.none, fun h _ _ => absurd h (HNO.out ‹_›), fun _ => rfl⟩
                · go_round
                  case rel => exact ⟨k + 1, by omega, by go_num⟩
                  case measure => simp [intOf];omega
              · go_wp2_with fail
                go_ret
                exact ⟨true, rfl, hp.none, fun _ _ _ => rfl, fun h => absurd h (by omega)⟩
          · have e3 : (kindB s[0] != 3) = true := by simpa using h3
            have hno : ¬ Alln s := fun ha => by
              have := ha 0 h00
              omega
            have HNO := Lib.hid hno; clear hno h1 h3
            go_wp2_with (go_at_call 121; refine (rkindB_any _ _).mono ?_; rintro e w' ⟨rfl, rfl⟩)
            go_ret
            exact ⟨false, rfl, hp.none, fun h _ _ => absurd h HNO.out, fun _ => rfl⟩
      · have hb : (n != 0) = true := by simpa using hn0
        go_wp2_with fail
        go_ret
        exact ⟨false, rfl, hp.none, fun h _ _ => absurd (HN.out h) hn0, fun _ => rfl⟩
    · go_enter Tryz.func101, Tryz.ntmps101
      go_wp2_with fail
      go_ret
      exact ⟨false, rfl, Hp.refl _, fun _ _ h => absurd h h64, fun _ => rfl⟩
theorem alln_lets (s : ByteArray) (h : lets (byts s) = s.size) : Alln s := by
  intro k hk
  have h1 : lets (byts s) = (byts s).length := by rw [byts_len]; exact h
  unfold lets at h1
  have h2 := List.countP_eq_length.1 h1 s[k] (by
    have : (byts s)[k]'(by rw [byts_len]; exact hk) ∈ byts s := List.getElem_mem _
    exact this)
  unfold alnum at h2
  simpa using h2
set_option maxRecDepth 100000 in
set_option maxHeartbeats 2000000 in
theorem rname_any (s : ByteArray) (w : World) (hs : s.size ≤ 140737488355328) :
    Calls Tryz.prog 82 #[.string s] w fun e w' => e = .returned (.bool (isNm s)) ∧ Hp w.heap.size w w' [] := by
  by_cases h16 : s.size ≤ 16
  · go_enter Tryz.func82, Tryz.ntmps82
    go_wp2_with fail
    refine (rword_any _ _ hs).mono ?_
    rintro e w1 ⟨b, rfl, hp, h1, h2⟩
    have H1 := Lib.hid h1; clear h1
    have H2 := Lib.hid h2; clear h2
    cases b with
    | false =>
      go_wp2_with fail
      go_ret
      refine ⟨ret_bool ?_, hp.none⟩
      cases hb : isNm s with
      | false => rfl
      | true =>
        simp only [isNm, Bool.and_eq_true, decide_eq_true_eq] at hb
        exact H1.out (alln_lets s hb.2.2) hb.1 (by omega)
    | true =>
      have h0 : 0 < s.size := by
        rcases Nat.eq_zero_or_pos s.size with h | h
        · exact absurd (H2.out h) (by simp)
        · exact h
      go_wp2_with (go_at_call 102; refine (rletters_any _ _ hs).mono ?_; rintro e w' ⟨rfl, rfl⟩)
      go_ret
      refine ⟨ret_bool ?_, hp.none⟩
      rw [isNm, decide_eq_true h0, decide_eq_true h16]
      simp only [Bool.true_and]
      rw [Bool.eq_iff_iff]
      simp only [beq_iff_eq, decide_eq_true_eq]
      omega
  · go_enter Tryz.func82, Tryz.ntmps82
    go_wp2_with fail
    go_ret
    refine ⟨ret_bool ?_, Hp.refl _⟩
    rw [isNm, decide_eq_false h16]
    simp
end Go.Proofs.YtpfemholpigdeaaGreatDoor
namespace Go.Proofs.YtpfemholpigdeaaGreatDoor
open Go.RowKit
def starB (s : ByteArray) : Bool := (byts s).getLast? == some 42
theorem starB_at (s : ByteArray) (h : 0 < s.size) : starB s = ((s[s.size - 1].toNat : Int) == 42) := by
  unfold starB
  have hl := byts_len s
  rw [List.getLast?_eq_getElem?, hl, List.getElem?_eq_getElem (by omega), byts_at s (s.size - 1) (by omega)]
  rw [Bool.eq_iff_iff]
  simp only [beq_iff_eq, Option.some.injEq]
  constructor
  · intro e; rw [e]; rfl
  · intro e
    apply UInt8.toNat_inj.1
    show _ = 42
    omega
theorem starB_nil (s : ByteArray) (h : s.size = 0) : starB s = false := by
  unfold starB
  have : byts s = [] := List.eq_nil_of_length_eq_zero (by rw [byts_len]; exact h)
  rw [this]; rfl
def leafNm (s : ByteArray) : Bool := if starB s then decide (s.size ≤ 16) && isNm (s.extract 0 (s.size - 1)) else isNm s
theorem extract_size (s : ByteArray) (n : Nat) (h : n ≤ s.size) : (s.extract 0 n).size = n := by
  rw [ByteArray.size_extract];omega
set_option maxRecDepth 100000 in
set_option maxHeartbeats 1000000 in
theorem leafName_any (s : ByteArray) (w : World) (hs : s.size ≤ 140737488355328) :
    Calls Tryz.prog 62 #[.string s] w fun e w' => e = .returned (.bool (leafNm s)) ∧ w = w' := by
  by_cases h0 : 0 < s.size
  · have hx := extract_size s (s.size - 1) (by omega)
    have HX := Lib.hid hx; clear hx
    have hst := starB_at s h0
    cases hb : starB s with
    | true =>
      rw [hb] at hst
      have hc : ((s[s.size - 1].toNat : Int) == 42) = true := hst.symm
      clear hst
      have HB := Lib.hid hb; clear hb
      by_cases h16 : s.size ≤ 16
      · go_enter Tryz.func62, Tryz.ntmps62
        go_wp2_with (go_at_call 81; refine (isName_any _ _ (by rw [HX.out];omega)).mono ?_; rintro e w' ⟨rfl, rfl⟩)
        go_ret
        exact ⟨ret_bool (by rw [leafNm, if_pos HB.out, decide_eq_true h16]; simp), rfl⟩
      · go_enter Tryz.func62, Tryz.ntmps62
        go_wp2_with fail
        go_ret
        exact ⟨ret_bool (by rw [leafNm, if_pos HB.out, decide_eq_false h16]; simp), rfl⟩
    | false =>
      rw [hb] at hst
      have hc : ((s[s.size - 1].toNat : Int) == 42) = false := hst.symm
      clear hst
      have HB := Lib.hid hb; clear hb
      go_enter Tryz.func62, Tryz.ntmps62
      go_wp2_with (go_at_call 81; refine (isName_any _ _ hs).mono ?_; rintro e w' ⟨rfl, rfl⟩)
      go_ret
      exact ⟨ret_bool (by rw [leafNm, if_neg (by rw [HB.out]; simp)]), rfl⟩
  · have hb := starB_nil s (by omega)
    have HB := Lib.hid hb; clear hb
    go_enter Tryz.func62, Tryz.ntmps62
    go_wp2_with (go_at_call 81; refine (isName_any _ _ hs).mono ?_; rintro e w' ⟨rfl, rfl⟩)
    go_ret
    exact ⟨ret_bool (by rw [leafNm, if_neg (by rw [HB.out]; simp)]), rfl⟩
set_option maxRecDepth 100000 in
set_option maxHeartbeats 1000000 in
theorem named_any (s : ByteArray) (w : World) (hs : s.size ≤ 140737488355328) :
    Calls Tryz.prog 64 #[.string s] w fun e w' => e = .returned (.bool (leafNm s)) ∧ Hp w.heap.size w w' [] := by
  by_cases h0 : 1 < s.size
  · have hx := extract_size s (s.size - 1) (by omega)
    have HX := Lib.hid hx; clear hx
    have hst := starB_at s (by omega)
    cases hb : starB s with
    | true =>
      rw [hb] at hst
      have hc : ((s[s.size - 1].toNat : Int) == 42) = true := hst.symm
      clear hst
      have HB := Lib.hid hb; clear hb
      by_cases h16 : s.size ≤ 16
      · go_enter Tryz.func64, Tryz.ntmps64
        go_wp2_with (go_at_call 82; refine (rname_any _ _ (by rw [HX.out];omega)).mono ?_; rintro e w' ⟨rfl, hp⟩)
        go_ret
        exact ⟨ret_bool (by rw [leafNm, if_pos HB.out, decide_eq_true h16]; simp), hp⟩
      · go_enter Tryz.func64, Tryz.ntmps64
        go_wp2_with fail
        go_ret
        exact ⟨ret_bool (by rw [leafNm, if_pos HB.out, decide_eq_false h16]; simp), Hp.refl _⟩
    | false =>
      rw [hb] at hst
      have hc : ((s[s.size - 1].toNat : Int) == 42) = false := hst.symm
      clear hst
      have HB := Lib.hid hb; clear hb
      go_enter Tryz.func64, Tryz.ntmps64
      go_wp2_with (go_at_call 82; refine (rname_any _ _ hs).mono ?_; rintro e w' ⟨rfl, hp⟩)
      go_ret
      exact ⟨ret_bool (by rw [leafNm, if_neg (by rw [HB.out]; simp)]), hp⟩
  · have hb : leafNm s = isNm s := by
      unfold leafNm
      cases hs : starB s with
      | false => rfl
      | true =>
        have h1 : s.size = 1 := by
          rcases Nat.eq_zero_or_pos s.size with h | h
          · rw [starB_nil s h] at hs; cases hs
          · omega
        have h2 : isNm (s.extract 0 (s.size - 1)) = false := by
          rw [isNm, extract_size s _ (by omega), h1]; rfl
        have h3 : isNm s = false := by
          have e : byts s = [42] := by
            have hl := byts_len s
            unfold starB at hs
            match hb : byts s with
            | [] => rw [hb] at hl; simp at hl;omega
            | [c] => rw [hb] at hs; simp at hs; rw [hs]
            | _ :: _ :: _ => rw [hb] at hl; simp at hl;omega
          have e2 : lets (byts s) = 0 := by rw [e]; decide
          rw [isNm, e2, h1]; rfl
        rw [h2, h3]; simp
    have HB := Lib.hid hb; clear hb
    go_enter Tryz.func64, Tryz.ntmps64
    go_wp2_with (go_at_call 82; refine (rname_any _ _ hs).mono ?_; rintro e w' ⟨rfl, hp⟩)
    go_ret
    exact ⟨ret_bool HB.out.symm, hp⟩
end Go.Proofs.YtpfemholpigdeaaGreatDoor
namespace Go.Proofs.YtpfemholpigdeaaGreatDoor
open Go.RowKit
def firstErr (f : Nat → Int) : Nat → Int
  | 0 => 0
  | n + 1 => if firstErr f n ≠ 0 then firstErr f n else f n
theorem firstErr_hit (f : Nat → Int) (k n : Nat) (h0 : firstErr f k = 0) (h1 : f k ≠ 0) (hk : k < n) : firstErr f n = f k := by
  induction n with
  | zero => omega
  | succ n ih =>
    rw [firstErr]
    rcases Nat.lt_or_ge k n with h | h
    · rw [ih h, if_pos h1]
    · obtain rfl : n = k := by omega
      rw [if_neg (by rw [h0]; simp)]
theorem firstErr_step (f : Nat → Int) (k : Nat) (h0 : firstErr f k = 0) (h1 : f k = 0) : firstErr f (k + 1) = 0 := by
  rw [firstErr, if_neg (by rw [h0]; simp), h1]
theorem firstErr_zero (f : Nat → Int) (n : Nat) (h : firstErr f n = 0) : ∀ k, k < n → f k = 0 := by
  induction n with
  | zero => intro k hk;omega
  | succ n ih =>
    rw [firstErr] at h
    by_cases h0 : firstErr f n = 0
    · rw [if_neg (by rw [h0]; simp)] at h
      intro k hk
      rcases Nat.lt_or_ge k n with h1 | h1
      · exact ih h0 k h1
      · obtain rfl : k = n := by omega
        exact h
    · rw [if_pos h0] at h; exact absurd h h0
def incB (xs : List Int) : Bool := decide (xs.Pairwise (· < ·))
theorem incB_of (xs : List Int) (h : ∀ j, 1 ≤ j → (hj : j < xs.length) → xs[j - 1] < xs[j]) : incB xs = true := by
  have key : ∀ d i, (hi : i + d + 1 < xs.length) → xs[i]'(by omega) < xs[i + d + 1] := by
    intro d
    induction d with
    | zero => intro i hi; have := h (i + 1) (by omega) hi; simpa using this
    | succ d ih =>
      intro i hi
      have h1 := ih i (by omega)
      have h2 := h (i + (d + 1) + 1) (by omega) hi
      simp only [Nat.add_sub_cancel] at h2
      have e : xs[i + (d + 1)]'(by omega) = xs[i + d + 1]'(by omega) := rfl
      omega
  unfold incB
  rw [decide_eq_true_eq, List.pairwise_iff_getElem]
  intro i j hi hj hij
  obtain ⟨d, rfl⟩ : ∃ d, j = i + d + 1 := ⟨j - i - 1, by omega⟩
  exact key d i hj
theorem incB_not (xs : List Int) (k : Nat) (h1 : 1 ≤ k) (hk : k < xs.length) (h : xs[k] ≤ xs[k - 1]) : incB xs = false := by
  unfold incB
  rw [decide_eq_false_iff_not, List.pairwise_iff_getElem]
  intro hp
  have := hp (k - 1) k (by omega) hk (by omega)
  omega
def rngB (xs : List Int) (i : Nat) : Bool := xs.any fun p => decide (p < 0) || decide ((i : Int) ≤ p)
def stAt (s : Stem) (i : Nat) : Int :=
  if leafNm (s.names.getD i ByteArray.empty) = false then 14
  else if Lib.containsS (s.names.take i) (s.names.getD i ByteArray.empty) = true then 7
  else if rngB (s.par.getD i []) i = true then 2
  else if incB (s.par.getD i []) = false then 10 else 0
def stCheck (s : Stem) : Int :=
  if s.names.length = 0 then 5 else if 64 < s.names.length then 4
  else if s.ext.length ≠ s.names.length ∨ s.par.length ≠ s.names.length then 9
  else firstErr (stAt s) s.names.length
theorem Strs.take {w : World} {a : Option Addr} {n cap : Nat} {xs : List ByteArray} (h : Strs w (.slice a n cap) xs) (k cap' : Nat) (hk : k ≤ xs.length) (hcap : k ≤ cap') : Strs w (.slice a k cap') (xs.take k) := by
  obtain ⟨⟨hl, ⟨a', c', hv, hc⟩, _⟩, h2⟩ := h
  simp only [Value.slice.injEq] at hv
  obtain ⟨rfl, rfl, rfl⟩ := hv
  have hlen : (xs.take k).length = k := by rw [List.length_take];omega
  refine ⟨⟨by omega, ⟨a, cap', by rw [hlen], ?_⟩, fun a1 m c hv => ?_⟩, fun s hs => h2 s (List.mem_of_mem_take hs)⟩
  case refine_2 =>
    simp only [Value.slice.injEq] at hv
    omega
  rw [hlen]
  rcases hc with h0 | ⟨b, off, ha, hc⟩
  · left;omega
  · right
    refine ⟨b, off, ha, fun j hj => ?_⟩
    rw [hc j (by omega)]
    have : (xs.take k).getD j ByteArray.empty = xs.getD j ByteArray.empty := by
      simp only [List.getD_eq_getElem?_getD, List.getElem?_take, if_pos (show j < k by omega)]
    rw [this]
set_option maxHeartbeats 1000000 in
theorem check1_any (x i : Int) (a : Addr) (w : World) (ha : w.cell? a = some (.int .i64 i)) :
    Calls Tryz.prog 63 #[.int .i64 x, .pointer (some a)] w fun e w' => e = .returned (.bool (decide (x < 0) || decide (i ≤ x))) ∧ w = w' := by
  by_cases h : x < 0
  · go_enter Tryz.func63, Tryz.ntmps63
    go_wp2
    go_ret
    exact ⟨ret_bool (by simp [h]), rfl⟩
  · by_cases h2 : i ≤ x
    · go_enter Tryz.func63, Tryz.ntmps63
      go_wp2
      go_ret
      exact ⟨ret_bool (by simp [h2]), rfl⟩
    · go_enter Tryz.func63, Tryz.ntmps63
      go_wp2
      go_ret
      exact ⟨ret_bool (by simp [h, h2]), rfl⟩
theorem check1_pred (i : Nat) (a : Addr) (w : World) (xs : List Int) (ha : w.cell? a = some (.int .i64 i)) : PredI 63 #[.pointer (some a)] w xs (fun p => decide (p < 0) || decide ((i : Int) ≤ p)) :=
  ⟨enters_of Tryz.func63 (by kernel_rfl) rfl, fun x _ w1 hq => (check1_any x i a w1 ((hq.cell a).trans ha)).mono fun e w' ⟨h1, h2⟩ => ⟨h1, Quiet.of_eq h2⟩⟩
theorem range_any (v : Value) (xs : List Int) (i : Nat) (a : Addr) (w : World) (h : Ints w v xs) (ha : w.cell? a = some (.int .i64 i)) :
    Calls Tryz.prog 41 #[v, .func (.func 63) #[] #[.pointer (some a)]] w fun e w' => e = .returned (.bool (rngB xs i)) ∧ Quiet w w' :=
  containsFunc_int v xs _ _ _ w h (check1_pred i a w xs ha)
end Go.Proofs.YtpfemholpigdeaaGreatDoor
namespace Go.Proofs.YtpfemholpigdeaaGreatDoor
def okPar (par : List (List Int)) : Prop := ∀ i, (h : i < par.length) → ∀ p ∈ par[i], 0 ≤ p ∧ p < i
theorem stCheck_len (s : Stem) (h : stCheck s = 0) : s.names.length ≠ 0 ∧ s.names.length ≤ 64 ∧ s.ext.length = s.names.length ∧ s.par.length = s.names.length ∧ firstErr (stAt s) s.names.length = 0 := by
  unfold stCheck at h
  by_cases h0 : s.names.length = 0
  · rw [if_pos h0] at h;omega
  rw [if_neg h0] at h
  by_cases h64 : 64 < s.names.length
  · rw [if_pos h64] at h;omega
  rw [if_neg h64] at h
  by_cases hl : s.ext.length ≠ s.names.length ∨ s.par.length ≠ s.names.length
  · rw [if_pos hl] at h;omega
  rw [if_neg hl] at h
  exact ⟨h0, by omega, by omega, by omega, h⟩
theorem stAt_zero (s : Stem) (i : Nat) (hi : i < s.names.length) (hp : i < s.par.length) (h : stAt s i = 0) :
    leafNm s.names[i] = true ∧ Lib.containsS (s.names.take i) s.names[i] = false ∧ (∀ p ∈ s.par[i], 0 ≤ p ∧ p < i) ∧ s.par[i].Pairwise (· < ·) := by
  have hst : stAt s i = if leafNm s.names[i] = false then 14 else if Lib.containsS (s.names.take i) s.names[i] = true then 7 else if rngB s.par[i] i = true then 2 else if incB s.par[i] = false then 10 else 0 := by
    rw [stAt]; simp [hi, hp]
  rw [hst] at h
  cases h1 : leafNm s.names[i] with
  | false => rw [if_pos h1] at h;omega
  | true =>
    rw [if_neg (by rw [h1]; simp)] at h
    cases h2 : Lib.containsS (s.names.take i) s.names[i] with
    | true => rw [if_pos h2] at h;omega
    | false =>
      rw [if_neg (by rw [h2]; simp)] at h
      cases h3 : rngB s.par[i] i with
      | true => rw [if_pos h3] at h;omega
      | false =>
        rw [if_neg (by rw [h3]; simp)] at h
        cases h4 : incB s.par[i] with
        | false => rw [if_pos h4] at h;omega
        | true =>
          refine ⟨rfl, rfl, fun p hp => ?_, by simpa [incB] using h4⟩
          rw [rngB, List.any_eq_false] at h3
          have := h3 p hp
          simp at this
          omega
theorem stCheck_okPar (s : Stem) (h : stCheck s = 0) : okPar s.par := by
  obtain ⟨_, _, _, hp, hf⟩ := stCheck_len s h
  intro i hi p hpi
  have h0 := firstErr_zero _ _ hf i (by omega)
  exact (stAt_zero s i (by omega) hi h0).2.2.1 p hpi
theorem asc_ge (xs : List Int) (h : xs.Pairwise (· < ·)) (h0 : ∀ x ∈ xs, 0 ≤ x) : ∀ (j : Nat) (hj : j < xs.length), (j : Int) ≤ xs[j] := by
  intro j
  induction j with
  | zero => intro hj; exact h0 _ (List.getElem_mem hj)
  | succ j ih =>
    intro hj
    have a := ih (by omega)
    have b := List.pairwise_iff_getElem.1 h j (j + 1) (by omega) hj (by omega)
    omega
theorem asc_len (xs : List Int) (h : xs.Pairwise (· < ·)) (n : Nat) (h0 : ∀ x ∈ xs, 0 ≤ x ∧ x < n) : xs.length ≤ n := by
  by_cases hl : xs.length = 0
  · omega
  have a := asc_ge xs h (fun x hx => (h0 x hx).1) (xs.length - 1) (by omega)
  have b := (h0 _ (List.getElem_mem (show xs.length - 1 < xs.length by omega))).2
  omega
theorem stCheck_inc (s : Stem) (h : stCheck s = 0) : ∀ i, i < s.par.length → (s.par.getD i []).Pairwise (· < ·) := by
  obtain ⟨_, _, _, hp, hf⟩ := stCheck_len s h
  intro i hi
  have h0 := firstErr_zero _ _ hf i (by omega)
  unfold stAt at h0
  split at h0
  · omega
  split at h0
  · omega
  split at h0
  · omega
  split at h0
  · omega
  · rename_i h1
    simpa [incB] using h1
end Go.Proofs.YtpfemholpigdeaaGreatDoor
namespace Go.Proofs.YtpfemholpigdeaaGreatDoor
abbrev w36e : ByteArray := ⟨#[101, 120, 116, 97, 110, 116]⟩
abbrev w36l : ByteArray := ⟨#[108, 111, 115, 116]⟩
abbrev w36f : ByteArray := ⟨#[102, 114, 111, 109]⟩
def wrd (l : List UInt8) : List ByteArray := (spl 32 l).map bOf
def linW (t : List UInt8) : List (List ByteArray) := (spl 10 t).dropLast.map wrd ++ if (spl 10 t).getLastD [] = [] then [] else [[]]
def okL (ws : List ByteArray) : Bool :=
  decide (2 ≤ ws.length) && (!(Lib.containsS ws ByteArray.empty) && ((decide (ws.getD 1 ByteArray.empty = w36e) || decide (ws.getD 1 ByteArray.empty = w36l)) && (decide (ws.length ≤ 2) || (decide (ws.getD 2 ByteArray.empty = w36f) && decide (ws.length ≠ 3)))))
def nmL (ls : List (List ByteArray)) : List ByteArray := ls.map fun ws => ws.getD 0 ByteArray.empty
def exL (ls : List (List ByteArray)) : List Bool := ls.map fun ws => decide (ws.getD 1 ByteArray.empty = w36e)
def paL (ns : List ByteArray) (ws : List ByteArray) : List Int := (ws.drop 3).map (Lib.idxOfS ns)
def fndB (ns : List ByteArray) (ws : List ByteArray) : Bool := (ws.drop 3).all fun x => Lib.containsS ns x
def psS (t : ByteArray) : Stem := ⟨nmL (linW t.data.toList), exL (linW t.data.toList), (linW t.data.toList).map (paL (nmL (linW t.data.toList)))⟩
def psE (t : ByteArray) : Int :=
  if 65536 < t.size then 4 else if (linW t.data.toList).all okL = false then 3
  else if (linW t.data.toList).all (fndB (nmL (linW t.data.toList))) = false then 6 else stCheck (psS t)
theorem linW_nil : linW [] = [] := rfl
theorem linW_hit (a b : List UInt8) (h : (10 : UInt8) ∉ a) : linW (a ++ 10 :: b) = wrd a :: linW b := by
  unfold linW
  rw [spl_hit 10 b a h]
  obtain ⟨y, t, e⟩ := List.exists_cons_of_ne_nil (spl_ne 10 b)
  rw [e]
  rfl
theorem linW_miss (t : List UInt8) (h : (10 : UInt8) ∉ t) (hn : t ≠ []) : linW t = [[]] := by
  unfold linW
  rw [spl_miss 10 t h]
  show [] ++ (if t = [] then [] else [[]]) = _
  rw [if_neg hn]
  rfl
theorem wrd_len (l : List UInt8) : (wrd l).length ≤ l.length + 1 := by
  unfold wrd
  rw [List.length_map]
  exact spl_len_le 32 l
theorem wrd_size (l : List UInt8) : ∀ x ∈ wrd l, x.size ≤ l.length := by
  intro x hx
  unfold wrd at hx
  obtain ⟨y, hy, rfl⟩ := List.mem_map.1 hx
  rw [bOf_size]
  exact spl_size_le 32 l y hy
theorem linW_len (t : List UInt8) : (linW t).length ≤ t.length + 1 := by
  unfold linW
  have := spl_len_le 10 t
  have h2 := spl_ne 10 t
  rw [List.length_append, List.length_map, List.length_dropLast]
  have : 0 < (spl 10 t).length := List.length_pos_iff.2 h2
  split <;> simp <;> omega
theorem linW_mem (t : List UInt8) : ∀ ws ∈ linW t, ws.length ≤ t.length + 1 ∧ ∀ x ∈ ws, x.size ≤ t.length := by
  intro ws hw
  unfold linW at hw
  rcases List.mem_append.1 hw with h | h
  · obtain ⟨l, hl, rfl⟩ := List.mem_map.1 h
    have h1 := spl_size_le 10 t l ((List.dropLast_sublist _).subset hl)
    exact ⟨Nat.le_trans (wrd_len l) (by omega), fun x hx => Nat.le_trans (wrd_size l x hx) h1⟩
  · split at h
    · cases h
    · simp only [List.mem_singleton] at h
      subst h
      exact ⟨by simp, fun x hx => absurd hx List.not_mem_nil⟩
theorem idxFromS_in (x y : ByteArray) : ∀ (ns : List ByteArray) (i : Nat), x ∈ ns → Lib.idxFromS (ns ++ [y]) x i = Lib.idxFromS ns x i
  | z :: zs, i, h => by
    rw [List.cons_append]
    simp only [Lib.idxFromS]
    by_cases hz : z = x
    · rw [if_pos hz, if_pos hz]
    · rw [if_neg hz, if_neg hz]
      refine idxFromS_in x y zs (i + 1) ?_
      rcases List.mem_cons.1 h with h | h
      · exact absurd h.symm hz
      · exact h
theorem idxFromS_out (x y : ByteArray) : ∀ (ns : List ByteArray) (i : Nat), x ∉ ns → Lib.idxFromS (ns ++ [y]) x i = if y = x then ((i + ns.length : Nat) : Int) else -1
  | [], i, _ => rfl
  | z :: zs, i, h => by
    rw [List.mem_cons, not_or] at h
    rw [List.cons_append]
    simp only [Lib.idxFromS]
    rw [if_neg (fun e => h.1 e.symm), idxFromS_out x y zs (i + 1) h.2, List.length_cons]
    split
    · congr 1;omega
    · rfl
theorem idxS_app (ns : List ByteArray) (x y : ByteArray) : Lib.idxOfS (ns ++ [y]) x = if Lib.containsS ns x = true then Lib.idxOfS ns x else if y = x then (ns.length : Int) else -1 := by
  unfold Lib.idxOfS
  by_cases h : Lib.containsS ns x = true
  · rw [if_pos h, idxFromS_in x y ns 0 ((Lib.containsS_iff _ _).1 h)]
  · rw [if_neg h, idxFromS_out x y ns 0 (fun e => h ((Lib.containsS_iff _ _).2 e)), Nat.zero_add]
theorem conS_app (ns : List ByteArray) (x y : ByteArray) : Lib.containsS (ns ++ [y]) x = (Lib.containsS ns x || decide (y = x)) := by
  rw [Bool.eq_iff_iff, Bool.or_eq_true, Lib.containsS_iff, Lib.containsS_iff, List.mem_append, List.mem_singleton, decide_eq_true_eq]
  exact ⟨fun h => h.imp id fun e => e.symm, fun h => h.imp id fun e => e.symm⟩
def plcF (ns : List ByteArray) (x : ByteArray) : Option Int := if Lib.containsS ns x = true then some (Lib.idxOfS ns x) else none
theorem plcF_app (ns : List ByteArray) (x y : ByteArray) : plcF (ns ++ [y]) x = if Lib.containsS ns y = false ∧ y = x then some (ns.length : Int) else plcF ns x := by
  unfold plcF
  rw [idxS_app, conS_app]
  by_cases h : Lib.containsS ns x = true
  · rw [if_pos (by rw [h]; rfl), if_pos h, if_pos h, if_neg]
    rintro ⟨h1, rfl⟩
    rw [h] at h1; cases h1
  · rw [Bool.not_eq_true] at h
    rw [h, Bool.false_or]
    by_cases e : y = x
    · subst e
      simp [h]
    · simp [e]
end Go.Proofs.YtpfemholpigdeaaGreatDoor
namespace Go.Proofs.YtpfemholpigdeaaGreatDoor
open Go.RowKit Go.Maps
def MxL (w : World) : Prop := ∃ m, w.cell? ⟨0, 0, none⟩ = some (.int .i64 m)
theorem MxL.below {w w' : World} (h : MxL w) (hb : Below w.heap.size w w') : MxL w' := by
  obtain ⟨m, hm⟩ := h
  refine ⟨m, ?_⟩
  rw [← hm]
  have hlt : 0 < w.heap.size := by
    unfold World.cell? at hm
    cases h : w.heap[0]? with
    | none => simp [h] at hm
    | some o => exact (Array.getElem?_eq_some_iff.1 h).1
  unfold World.cell?
  rw [hb.block _ hlt]
theorem mxl_of (w : World) (h : w.ShapedOpen Tryz.prog) : MxL w := cell_of_shapedOpen_int (zero := #[.int .i64 0]) (t := 3) h (of_decide_eq_true (by kernel_rfl)) (by kernel_rfl) rfl (by kernel_rfl) (by kernel_rfl) Tryz.underlying3
set_option maxRecDepth 100000 in
set_option maxHeartbeats 4000000 in
theorem cut_sat (s : ByteArray) (c : UInt8) (w : World) (hm : MxL w) (hs : s.size ≤ 4000000000) :
    SatV Tryz.prog 75 [.string s, .string ⟨#[c]⟩] w (.tuple #[.string (bOf (Lib.cut s.data.toList [c]).1), .string (bOf (Lib.cut s.data.toList [c]).2.1), .bool (Lib.cut s.data.toList [c]).2.2]) :=
  Sat.lib ⟨_, _, Tryz.func75, by kernel_rfl, rfl⟩ fun w1 hb => by
    obtain ⟨m, hm⟩ := hm.below hb
    refine (Tryz.strings_Cut s ⟨#[c]⟩ m w1 (by omega) hm).mono ?_
    rintro e w' ⟨rfl, n, rfl⟩
    exact ⟨_, [], rfl, (Hp.refl w1).drewN n, rfl, rfl⟩
def rW (wv : Value) (ws : List ByteArray) : Res := .row 9 1 wv ws.length (strs ws)
set_option maxRecDepth 100000 in
set_option maxHeartbeats 4000000 in
theorem split_sat (s : ByteArray) (w : World) (hm : MxL w) (hs : s.size ≤ 4000000000) :
    Sat Tryz.prog 76 [.string s, .string ⟨#[32]⟩] w (fun u L => ∃ g, u = .slice (some ⟨g, 0, none⟩) (wrd s.data.toList).length (wrd s.data.toList).length ∧ L = [rW u (wrd s.data.toList)]) :=
  Sat.lib ⟨_, _, Tryz.func76, by kernel_rfl, rfl⟩ fun w1 hb => by
    obtain ⟨m, hm⟩ := hm.below hb
    refine (Tryz.strings_Split s ⟨#[32]⟩ m w1 (by omega) hm (by decide)).mono ?_
    have e1 : Lib.splitB ⟨#[32]⟩ 0 (Lib.countB s ⟨#[32]⟩) s = wrd s.data.toList := spl_splitB 32 _ s rfl
    have e2 : Lib.countB s ⟨#[32]⟩ + 1 = (wrd s.data.toList).length := by
      unfold wrd
      rw [List.length_map]
      exact (spl_count 32 s).symm
    have hl := wrd_len s.data.toList
    have hs2 : s.data.toList.length = s.size := Array.length_toList
    rw [e1, e2]
    rintro e w' ⟨rfl, rfl⟩
    refine ⟨_, _, rfl, ?_, w1.heap.size, rfl, rfl⟩
    have := (Hp.refl w1).lit 9 1 ((wrd s.data.toList).map Value.string).toArray (wrd s.data.toList).length (by unfold maxLen;omega) (by simp)
    simpa [rW, strs] using this
section
variable {P : Program} {n : Nat} {w0 : World} {Q : Exit → Fm → List Res → Prop} {K : Fm → List Res → Prop} {F : Fm} {L : List Res} {m : Md} {Lw : List Res} {ops : Array Oper} {rest : List Oper}
  {d : Option Nat} {ty : TypeId} {pos : String} {aft : Array Edge}
theorem OKx_lookOk {t k e : TypeId} {x y : Operand} {g c : Nat} {Fk : Lit → Option Value} {key : Value} {kl : Lit} {z v : Value} {b : Bool} (i : Nat) (hx : rv n F x = .map (some g)) (hy : rv n F y = key) (hi : L[i]? = some (.obj g (MapIs P k c Fk)))
    (Ky : Keyed P k) (ht : P.underlying t = some (.map k e)) (hz : ∀ w, (zeroValue e).run P w = .ok z w) (hkey : keyOf P k key = some kl) (hl : WideAt.IsKeyLit kl) (hv : (Fk kl).getD z = v) (hb : (Fk kl).isSome = b)
    (kk : OKx P n w0 m ops K rest (updo F d (.tuple #[v, .bool b])) L) : OKx P n w0 m ops K (⟨d, .lookup t x y true, ty, pos, aft, none⟩ :: rest) F L :=
  OKx_still (fun w hp _ _ _ _ => by
    have h := hp.lookOk i hi Ky ht (hz w) hkey hl
    subst hv
    subst hb
    simp [execOp, hx, hy, h, Result.andThen]) kk
end
theorem TKeyS : Keyed Tryz.prog 9 := string_keyed Tryz.underlying9
def litS (s : ByteArray) : Lit := .string s.data.toList
theorem keyS (s : ByteArray) (h : s.size ≤ 140737488355328) : keyOf Tryz.prog 9 (.string s) = some (litS s) := WideMaps.keyOf_string_mk Tryz.underlying9 (by unfold maxLen;omega)
theorem litS_key (s : ByteArray) : WideAt.IsKeyLit (litS s) := trivial
theorem putF_str (F : Lit → Option Value) (a b : ByteArray) (v : Value) : putF F (litS a) v (litS b) = if a = b then some v else F (litS b) := by
  unfold putF
  by_cases h : a = b
  · subst h
    rw [if_pos (WideAt.sameKey_self (litS_key a)), if_pos rfl]
  · rw [if_neg h, if_neg]
    intro e
    unfold litS at e
    simp only [Lit.sameKey, beq_iff_eq] at e
    apply h
    rw [← bOf_data a, ← bOf_data b, e]
end Go.Proofs.YtpfemholpigdeaaGreatDoor
