/-
  Part 10 of the proof: Leaf, Stem, Stp, StemC, StemR, Ext, Lt, Gu, Te36. No statement of the seat is proved here.
-/
import Derived.Test.YtdigdmnnjbndlaaGreatDoorMHTr389
import Derived.Deep.QuietTactic
import Derived.BigQuiet
namespace Go.Proofs.YtdigdmnnjbndlaaGreatDoor
open Go.RowKit
def starB (s : ByteArray) : Bool := (byts s).getLast? == some 42
theorem starB_at (s : ByteArray) (h : 0 < s.size) : starB s = ((s[s.size - 1].toNat : Int) == 42) := by
  unfold starB
  have hl := byts_len s
  rw [List.getLast?_eq_getElem?, hl, List.getElem?_eq_getElem (by omega), byts_at s (s.size - 1) (by omega)]
  rw [Bool.eq_iff_iff]
  simp only [beq_iff_eq, Option.some.injEq]
  constructor
  · intro e; rw [e]; rfl
  · intro e
    apply UInt8.toNat_inj.1
    show _ = 42
    omega
theorem starB_nil (s : ByteArray) (h : s.size = 0) : starB s = false := by
  unfold starB
  have : byts s = [] := List.eq_nil_of_length_eq_zero (by rw [byts_len]; exact h)
  rw [this]; rfl
def leafNm (s : ByteArray) : Bool := if starB s then decide (s.size ≤ 16) && isNm (s.extract 0 (s.size - 1)) else isNm s
theorem extract_size (s : ByteArray) (n : Nat) (h : n ≤ s.size) : (s.extract 0 n).size = n := by
  rw [ByteArray.size_extract];omega
set_option maxRecDepth 100000 in
set_option maxHeartbeats 1000000 in
theorem leafName_any (s : ByteArray) (w : World) (hs : s.size ≤ 140737488355328) :
    Calls Tryz.prog 65 #[.string s] w fun e w' => e = .returned (.bool (leafNm s)) ∧ w = w' := by
  by_cases h0 : 0 < s.size
  · have hx := extract_size s (s.size - 1) (by omega)
    have HX := Lib.hid hx; clear hx
    have hst := starB_at s h0
    cases hb : starB s with
    | true =>
      rw [hb] at hst
      have hc : ((s[s.size - 1].toNat : Int) == 42) = true := hst.symm
      clear hst
      have HB := Lib.hid hb; clear hb
      by_cases h16 : s.size ≤ 16
      · go_enter Tryz.func65, Tryz.ntmps65
        go_wp2_with (go_at_call 103; refine (isName_any _ _ (by rw [HX.out];omega)).mono ?_; rintro e w' ⟨rfl, rfl⟩)
        go_ret
        exact ⟨ret_bool (by rw [leafNm, if_pos HB.out, decide_eq_true h16]; simp), rfl⟩
      · go_enter Tryz.func65, Tryz.ntmps65
        go_wp2_with fail
        go_ret
        exact ⟨ret_bool (by rw [leafNm, if_pos HB.out, decide_eq_false h16]; simp), rfl⟩
    | false =>
      rw [hb] at hst
      have hc : ((s[s.size - 1].toNat : Int) == 42) = false := hst.symm
      clear hst
      have HB := Lib.hid hb; clear hb
      go_enter Tryz.func65, Tryz.ntmps65
      go_wp2_with (go_at_call 103; refine (isName_any _ _ hs).mono ?_; rintro e w' ⟨rfl, rfl⟩)
      go_ret
      exact ⟨ret_bool (by rw [leafNm, if_neg (by rw [HB.out]; simp)]), rfl⟩
  · have hb := starB_nil s (by omega)
    have HB := Lib.hid hb; clear hb
    go_enter Tryz.func65, Tryz.ntmps65
    go_wp2_with (go_at_call 103; refine (isName_any _ _ hs).mono ?_; rintro e w' ⟨rfl, rfl⟩)
    go_ret
    exact ⟨ret_bool (by rw [leafNm, if_neg (by rw [HB.out]; simp)]), rfl⟩
set_option maxRecDepth 100000 in
set_option maxHeartbeats 1000000 in
theorem named_any (s : ByteArray) (w : World) (hs : s.size ≤ 140737488355328) :
    Calls Tryz.prog 48 #[.string s] w fun e w' => e = .returned (.bool (leafNm s)) ∧ Hp w.heap.size w w' [] := by
  by_cases h0 : 1 < s.size
  · have hx := extract_size s (s.size - 1) (by omega)
    have HX := Lib.hid hx; clear hx
    have hst := starB_at s (by omega)
    cases hb : starB s with
    | true =>
      rw [hb] at hst
      have hc : ((s[s.size - 1].toNat : Int) == 42) = true := hst.symm
      clear hst
      have HB := Lib.hid hb; clear hb
      by_cases h16 : s.size ≤ 16
      · go_enter Tryz.func48, Tryz.ntmps48
        go_wp2_with (go_at_call 81; refine (rname_any _ _ (by rw [HX.out];omega)).mono ?_; rintro e w' ⟨rfl, hp⟩)
        go_ret
        exact ⟨ret_bool (by rw [leafNm, if_pos HB.out, decide_eq_true h16]; simp), hp⟩
      · go_enter Tryz.func48, Tryz.ntmps48
        go_wp2_with fail
        go_ret
        exact ⟨ret_bool (by rw [leafNm, if_pos HB.out, decide_eq_false h16]; simp), Hp.refl _⟩
    | false =>
      rw [hb] at hst
      have hc : ((s[s.size - 1].toNat : Int) == 42) = false := hst.symm
      clear hst
      have HB := Lib.hid hb; clear hb
      go_enter Tryz.func48, Tryz.ntmps48
      go_wp2_with (go_at_call 81; refine (rname_any _ _ hs).mono ?_; rintro e w' ⟨rfl, hp⟩)
      go_ret
      exact ⟨ret_bool (by rw [leafNm, if_neg (by rw [HB.out]; simp)]), hp⟩
  · have hb : leafNm s = isNm s := by
      unfold leafNm
      cases hs : starB s with
      | false => rfl
      | true =>
        have h1 : s.size = 1 := by
          rcases Nat.eq_zero_or_pos s.size with h | h
          · rw [starB_nil s h] at hs; cases hs
          · omega
        have h2 : isNm (s.extract 0 (s.size - 1)) = false := by
          rw [isNm, extract_size s _ (by omega), h1]; rfl
        have h3 : isNm s = false := by
          have e : byts s = [42] := by
            have hl := byts_len s
            unfold starB at hs
            match hb : byts s with
            | [] => rw [hb] at hl; simp at hl;omega
            | [c] => rw [hb] at hs; simp at hs; rw [hs]
            | _ :: _ :: _ => rw [hb] at hl; simp at hl;omega
          have e2 : lets (byts s) = 0 := by rw [e]; decide
          rw [isNm, e2, h1]; rfl
        rw [h2, h3]; simp
    have HB := Lib.hid hb; clear hb
    go_enter Tryz.func48, Tryz.ntmps48
    go_wp2_with (go_at_call 81; refine (rname_any _ _ hs).mono ?_; rintro e w' ⟨rfl, hp⟩)
    go_ret
    exact ⟨ret_bool HB.out.symm, hp⟩
end Go.Proofs.YtdigdmnnjbndlaaGreatDoor
namespace Go.Proofs.YtdigdmnnjbndlaaGreatDoor
open Go.RowKit
def firstErr (f : Nat → Int) : Nat → Int
  | 0 => 0
  | n + 1 => if firstErr f n ≠ 0 then firstErr f n else f n
theorem firstErr_hit (f : Nat → Int) (k n : Nat) (h0 : firstErr f k = 0) (h1 : f k ≠ 0) (hk : k < n) : firstErr f n = f k := by
  induction n with
  | zero => omega
  | succ n ih =>
    rw [firstErr]
    rcases Nat.lt_or_ge k n with h | h
    · rw [ih h, if_pos h1]
    · obtain rfl : n = k := by omega
      rw [if_neg (by rw [h0]; simp)]
theorem firstErr_step (f : Nat → Int) (k : Nat) (h0 : firstErr f k = 0) (h1 : f k = 0) : firstErr f (k + 1) = 0 := by
  rw [firstErr, if_neg (by rw [h0]; simp), h1]
theorem firstErr_zero (f : Nat → Int) (n : Nat) (h : firstErr f n = 0) : ∀ k, k < n → f k = 0 := by
  induction n with
  | zero => intro k hk;omega
  | succ n ih =>
    rw [firstErr] at h
    by_cases h0 : firstErr f n = 0
    · rw [if_neg (by rw [h0]; simp)] at h
      intro k hk
      rcases Nat.lt_or_ge k n with h1 | h1
      · exact ih h0 k h1
      · obtain rfl : k = n := by omega
        exact h
    · rw [if_pos h0] at h; exact absurd h h0
def incB (xs : List Int) : Bool := decide (xs.Pairwise (· < ·))
theorem incB_of (xs : List Int) (h : ∀ j, 1 ≤ j → (hj : j < xs.length) → xs[j - 1] < xs[j]) : incB xs = true := by
  have key : ∀ d i, (hi : i + d + 1 < xs.length) → xs[i]'(by omega) < xs[i + d + 1] := by
    intro d
    induction d with
    | zero => intro i hi; have := h (i + 1) (by omega) hi; simpa using this
    | succ d ih =>
      intro i hi
      have h1 := ih i (by omega)
      have h2 := h (i + (d + 1) + 1) (by omega) hi
      simp only [Nat.add_sub_cancel] at h2
      have e : xs[i + (d + 1)]'(by omega) = xs[i + d + 1]'(by omega) := rfl
      omega
  unfold incB
  rw [decide_eq_true_eq, List.pairwise_iff_getElem]
  intro i j hi hj hij
  obtain ⟨d, rfl⟩ : ∃ d, j = i + d + 1 := ⟨j - i - 1, by omega⟩
  exact key d i hj
theorem incB_not (xs : List Int) (k : Nat) (h1 : 1 ≤ k) (hk : k < xs.length) (h : xs[k] ≤ xs[k - 1]) : incB xs = false := by
  unfold incB
  rw [decide_eq_false_iff_not, List.pairwise_iff_getElem]
  intro hp
  have := hp (k - 1) k (by omega) hk (by omega)
  omega
def rngB (xs : List Int) (i : Nat) : Bool := xs.any fun p => decide (p < 0) || decide ((i : Int) ≤ p)
def stAt (s : Stem) (i : Nat) : Int :=
  if leafNm (s.names.getD i ByteArray.empty) = false then 14
  else if Lib.containsS (s.names.take i) (s.names.getD i ByteArray.empty) = true then 7
  else if rngB (s.par.getD i []) i = true then 2
  else if incB (s.par.getD i []) = false then 10 else 0
def stCheck (s : Stem) : Int :=
  if s.names.length = 0 then 5 else if 64 < s.names.length then 4
  else if s.ext.length ≠ s.names.length ∨ s.par.length ≠ s.names.length then 9
  else firstErr (stAt s) s.names.length
theorem Strs.take {w : World} {a : Option Addr} {n cap : Nat} {xs : List ByteArray} (h : Strs w (.slice a n cap) xs) (k cap' : Nat) (hk : k ≤ xs.length) (hcap : k ≤ cap') : Strs w (.slice a k cap') (xs.take k) := by
  obtain ⟨⟨hl, ⟨a', c', hv, hc⟩, _⟩, h2⟩ := h
  simp only [Value.slice.injEq] at hv
  obtain ⟨rfl, rfl, rfl⟩ := hv
  have hlen : (xs.take k).length = k := by rw [List.length_take];omega
  refine ⟨⟨by omega, ⟨a, cap', by rw [hlen], ?_⟩, fun a1 m c hv => ?_⟩, fun s hs => h2 s (List.mem_of_mem_take hs)⟩
  case refine_2 =>
    simp only [Value.slice.injEq] at hv
    omega
  rw [hlen]
  rcases hc with h0 | ⟨b, off, ha, hc⟩
  · left;omega
  · right
    refine ⟨b, off, ha, fun j hj => ?_⟩
    rw [hc j (by omega)]
    have : (xs.take k).getD j ByteArray.empty = xs.getD j ByteArray.empty := by
      simp only [List.getD_eq_getElem?_getD, List.getElem?_take, if_pos (show j < k by omega)]
    rw [this]
set_option maxHeartbeats 1000000 in
theorem check1_any (x i : Int) (a : Addr) (w : World) (ha : w.cell? a = some (.int .i64 i)) :
    Calls Tryz.prog 67 #[.int .i64 x, .pointer (some a)] w fun e w' => e = .returned (.bool (decide (x < 0) || decide (i ≤ x))) ∧ w = w' := by
  by_cases h : x < 0
  · go_enter Tryz.func67, Tryz.ntmps67
    go_wp2
    go_ret
    exact ⟨ret_bool (by simp [h]), rfl⟩
  · by_cases h2 : i ≤ x
    · go_enter Tryz.func67, Tryz.ntmps67
      go_wp2
      go_ret
      exact ⟨ret_bool (by simp [h2]), rfl⟩
    · go_enter Tryz.func67, Tryz.ntmps67
      go_wp2
      go_ret
      exact ⟨ret_bool (by simp [h, h2]), rfl⟩
theorem check1_pred (i : Nat) (a : Addr) (w : World) (xs : List Int) (ha : w.cell? a = some (.int .i64 i)) : PredI 67 #[.pointer (some a)] w xs (fun p => decide (p < 0) || decide ((i : Int) ≤ p)) :=
  ⟨enters_of Tryz.func67 (by kernel_rfl) rfl, fun x _ w1 hq => (check1_any x i a w1 ((hq.cell a).trans ha)).mono fun e w' ⟨h1, h2⟩ => ⟨h1, Quiet.of_eq h2⟩⟩
theorem range_any (v : Value) (xs : List Int) (i : Nat) (a : Addr) (w : World) (h : Ints w v xs) (ha : w.cell? a = some (.int .i64 i)) :
    Calls Tryz.prog 66 #[v, .func (.func 67) #[] #[.pointer (some a)]] w fun e w' => e = .returned (.bool (rngB xs i)) ∧ Quiet w w' :=
  containsFunc_int v xs _ _ _ w h (check1_pred i a w xs ha)
end Go.Proofs.YtdigdmnnjbndlaaGreatDoor
namespace Go.Proofs.YtdigdmnnjbndlaaGreatDoor
def okPar (par : List (List Int)) : Prop := ∀ i, (h : i < par.length) → ∀ p ∈ par[i], 0 ≤ p ∧ p < i
theorem stCheck_len (s : Stem) (h : stCheck s = 0) : s.names.length ≠ 0 ∧ s.names.length ≤ 64 ∧ s.ext.length = s.names.length ∧ s.par.length = s.names.length ∧ firstErr (stAt s) s.names.length = 0 := by
  unfold stCheck at h
  by_cases h0 : s.names.length = 0
  · rw [if_pos h0] at h;omega
  rw [if_neg h0] at h
  by_cases h64 : 64 < s.names.length
  · rw [if_pos h64] at h;omega
  rw [if_neg h64] at h
  by_cases hl : s.ext.length ≠ s.names.length ∨ s.par.length ≠ s.names.length
  · rw [if_pos hl] at h;omega
  rw [if_neg hl] at h
  exact ⟨h0, by omega, by omega, by omega, h⟩
theorem stAt_zero (s : Stem) (i : Nat) (hi : i < s.names.length) (hp : i < s.par.length) (h : stAt s i = 0) :
    leafNm s.names[i] = true ∧ Lib.containsS (s.names.take i) s.names[i] = false ∧ (∀ p ∈ s.par[i], 0 ≤ p ∧ p < i) ∧ s.par[i].Pairwise (· < ·) := by
  have hst : stAt s i = if leafNm s.names[i] = false then 14 else if Lib.containsS (s.names.take i) s.names[i] = true then 7 else if rngB s.par[i] i = true then 2 else if incB s.par[i] = false then 10 else 0 := by
    rw [stAt]; simp [hi, hp]
  rw [hst] at h
  cases h1 : leafNm s.names[i] with
  | false => rw [if_pos h1] at h;omega
  | true =>
    rw [if_neg (by rw [h1]; simp)] at h
    cases h2 : Lib.containsS (s.names.take i) s.names[i] with
    | true => rw [if_pos h2] at h;omega
    | false =>
      rw [if_neg (by rw [h2]; simp)] at h
      cases h3 : rngB s.par[i] i with
      | true => rw [if_pos h3] at h;omega
      | false =>
        rw [if_neg (by rw [h3]; simp)] at h
        cases h4 : incB s.par[i] with
        | false => rw [if_pos h4] at h;omega
        | true =>
          refine ⟨rfl, rfl, fun p hp => ?_, by simpa [incB] using h4⟩
          rw [rngB, List.any_eq_false] at h3
          have := h3 p hp
          simp at this
          omega
theorem stCheck_okPar (s : Stem) (h : stCheck s = 0) : okPar s.par := by
  obtain ⟨_, _, _, hp, hf⟩ := stCheck_len s h
  intro i hi p hpi
  have h0 := firstErr_zero _ _ hf i (by omega)
  exact (stAt_zero s i (by omega) hi h0).2.2.1 p hpi
end Go.Proofs.YtdigdmnnjbndlaaGreatDoor
namespace Go.Proofs.YtdigdmnnjbndlaaGreatDoor
open Go.RowKit
theorem stCheck_at (s : Stem) (k : Nat) (h0 : s.names.length ≠ 0) (h64 : ¬ 64 < s.names.length) (he : s.ext.length = s.names.length) (hp : s.par.length = s.names.length)
    (hk : k < s.names.length) (hf : firstErr (stAt s) k = 0) (e : Int) (hs : stAt s k = e) (hne : e ≠ 0) : stCheck s = e := by
  rw [stCheck, if_neg h0, if_neg h64, if_neg (by omega), firstErr_hit _ k _ hf (by rw [hs]; exact hne) hk, hs]
theorem stCheck_ok (s : Stem) (h0 : s.names.length ≠ 0) (h64 : ¬ 64 < s.names.length) (he : s.ext.length = s.names.length) (hp : s.par.length = s.names.length)
    (hf : firstErr (stAt s) s.names.length = 0) : stCheck s = 0 := by
  rw [stCheck, if_neg h0, if_neg h64, if_neg (by omega), hf]
set_option maxRecDepth 100000 in
set_option maxHeartbeats 4000000 in
theorem stCheck_any (v : Value) (s : Stem) (w : World) (h : Stm w v s) :
    Calls Tryz.prog 23 #[v] w fun e w' => e = .returned (.int .i64 (stCheck s)) ∧ Hp w.heap.size w w' [] := by
  obtain ⟨nv, ev, pv, rfl, hS, hE, hP⟩ := h
  obtain ⟨na, ncap, rfl, hnl, hN⟩ := hS.at
  obtain ⟨ea, ecap, rfl, hel, hE'⟩ := hE.at
  obtain ⟨pa, pcap, rfl, hpl, hP'⟩ := hP.at
  have hroom := hS.1.room _ _ _ rfl
  have HS := Lib.hid hS; clear hS
  have HN := Lib.hid hN; clear hN
  have HP := Lib.hid hP'; clear hP' hE' hE hP
  have hp0 := (Hp.refl w).box 34 #[.slice na s.names.length ncap, .slice ea s.ext.length ecap, .slice pa s.par.length pcap]
  by_cases h0 : s.names.length = 0
  · have e : stCheck s = 5 := by rw [stCheck, if_pos h0]
    have HE := Lib.hid e; clear e
    have hc : ((s.names.length : Int) == 0) = true := by rw [beq_iff_eq];omega
    have H0 := Lib.hid h0; clear h0
    go_enter Tryz.func23, Tryz.ntmps23
    go_wp2_with fail
    go_ret
    exact ⟨ret_int HE.out.symm, hp0.none⟩
  have hc : ((s.names.length : Int) == 0) = false := by rw [beq_eq_false_iff_ne];omega
  by_cases h64 : 64 < s.names.length
  · have e : stCheck s = 4 := by rw [stCheck, if_neg h0, if_pos h64]
    have HE := Lib.hid e; clear e
    go_enter Tryz.func23, Tryz.ntmps23
    go_wp2_with fail
    go_ret
    exact ⟨ret_int HE.out.symm, hp0.none⟩
  by_cases he : s.ext.length = s.names.length
  case neg =>
    have e : stCheck s = 9 := by rw [stCheck, if_neg h0, if_neg h64, if_pos (.inl he)]
    have HE := Lib.hid e; clear e
    have hc2 : ((s.ext.length : Int) != s.names.length) = true := by rw [bne_iff_ne];omega
    go_enter Tryz.func23, Tryz.ntmps23
    go_wp2_with fail
    go_ret
    exact ⟨ret_int HE.out.symm, hp0.none⟩
  by_cases hpp : s.par.length = s.names.length
  case neg =>
    have e : stCheck s = 9 := by rw [stCheck, if_neg h0, if_neg h64, if_pos (.inr hpp)]
    have HE := Lib.hid e; clear e
    have hc2 : ((s.ext.length : Int) != s.names.length) = false := by rw [bne_eq_false_iff_eq];omega
    have hc3 : ((s.par.length : Int) != s.names.length) = true := by rw [bne_iff_ne];omega
    have HH := Lib.hid he; clear he
    go_enter Tryz.func23, Tryz.ntmps23
    go_wp2_with fail
    go_ret
    exact ⟨ret_int HE.out.symm, hp0.none⟩
  have hc2 : ((s.ext.length : Int) != s.names.length) = false := by rw [bne_eq_false_iff_eq];omega
  have hc3 : ((s.par.length : Int) != s.names.length) = false := by rw [bne_eq_false_iff_eq];omega
  have HAT := Lib.hid (stCheck_at s · h0 h64 he hpp)
  have HOK := Lib.hid (stCheck_ok s h0 h64 he hpp)
  have HHE := Lib.hid he; clear he
  have HHP := Lib.hid hpp; clear hpp
  go_enter Tryz.func23, Tryz.ntmps23
  go_wp2_with fail
  go_loopw [32] (fun i wr => ∃ k : Nat, k ≤ s.names.length ∧ i = .int .i64 k ∧ Hid (firstErr (stAt s) k = 0) ∧
      Hp w.heap.size w wr [.box 34 w.heap.size [.slice na s.names.length ncap, .slice ea s.ext.length ecap, .slice pa s.par.length pcap]]) (fun i _ => s.names.length - (intOf i).toNat)
  case atStart => exact ⟨0, by omega, rfl, rfl, hp0⟩
  case round =>
    clear hp0
    obtain ⟨k, hk, rfl, hf, hp⟩ := hrel
    by_cases hlt : k < s.names.length
    · obtain ⟨bc, bf, bb, bl⟩ := hp.boxAt 0 rfl
      have b0 := bc 0
      have b2 := bc 2
      clear bc bf
      obtain ⟨hsz, nb, noff, rfl, hcell⟩ := HN.out k hlt
      have hcell := (hp.below.cell (World.block_lt_of_cell? w _ hcell)).trans hcell
      have hkp : k < s.par.length := by rw [HHP.out]; exact hlt
      obtain ⟨pb, poff, u, rfl, hpc, hpi⟩ := HP.out k hkp
      have hp1 := hp.box 3 #[.int .i64 k]
      have HPC := Lib.hid hpc
      have hpc := (hp1.below.cell (World.block_lt_of_cell? w _ hpc)).trans hpc
      obtain ⟨ra, rcap, rfl, hrl, hr⟩ := hpi.at
      have HPI := Lib.hid hpi; clear hpi
      have HR := Lib.hid hr; clear hr
      have hst : stAt s k = if leafNm s.names[k] = false then 14 else if Lib.containsS (s.names.take k) s.names[k] = true then 7 else if rngB s.par[k] k = true then 2 else if incB s.par[k] = false then 10 else 0 := by
        rw [stAt]; simp [hlt, hkp]
      have HST := Lib.hid hst; clear hst
      generalize hnm : s.names[k] = nm at *
      generalize hpk : s.par[k] = pk at *
      have HX1 := Lib.hid hnm; clear hnm
      have HX2 := Lib.hid hpk; clear hpk
      have HIB := Lib.hid ((hp1.boxAt 0 rfl).1 0)
      go_wp2_with fail
      refine (leafName_any nm _ hsz).mono ?_
      rintro e w1 ⟨rfl, rfl⟩
      cases hb : leafNm nm with
      | false =>
        go_wp2_with fail
        go_ret
        exact ⟨ret_int (HAT.out k hlt hf.out 14 (by rw [HST.out, if_pos hb]) (by decide)).symm, hp1.none⟩
      | true =>
        go_wp2_with fail
        refine (contains_str _ (s.names.take k) nm _ ((HS.out.take k _ hk (by omega)).below hp1.below)).mono ?_
        rintro e w1 ⟨rfl, rfl⟩
        cases hb2 : Lib.containsS (s.names.take k) nm with
        | true =>
          go_wp2_with fail
          go_ret
          exact ⟨ret_int (HAT.out k hlt hf.out 7 (by rw [HST.out, if_neg (by rw [hb]; simp), if_pos hb2]) (by decide)).symm, hp1.none⟩
        | false =>
          have HB := Lib.hid hb; clear hb
          have HB2 := Lib.hid hb2; clear hb2
          go_wp2_with fail
          refine (range_any _ pk k _ _ (HPI.out.below hp1.below) HIB.out).mono ?_
          rintro e w2 ⟨rfl, hq⟩
          have hp2 := hp1.quiet hq
          cases hb3 : rngB pk k with
          | true =>
            go_wp2_with fail
            go_ret
            exact ⟨ret_int (HAT.out k hlt hf.out 2 (by rw [HST.out, if_neg (by rw [HB.out]; simp), if_neg (by rw [HB2.out]; simp), if_pos hb3]) (by decide)).symm, hp2.none⟩
          | false =>
            have HB3 := Lib.hid hb3; clear hb3
            go_wp2_with fail
            obtain ⟨wo, rfl⟩ : ∃ wo : World, wo = wr := ⟨_, rfl⟩
            go_loopw [6] (fun i wi => ∃ j : Nat, 1 ≤ j ∧ i = .int .i64 j ∧ Hid (∀ m, 1 ≤ m → m < j → (hm : m < pk.length) → pk[m - 1]'(by omega) < pk[m]) ∧
                Hp w.heap.size w wi [.box 3 wo.heap.size [.int .i64 k], .box 34 w.heap.size [.slice (some ⟨nb, noff, none⟩) s.names.length ncap, .slice ea s.ext.length ecap, .slice (some ⟨pb, poff, none⟩) s.par.length pcap]]) (fun i _ => pk.length - (intOf i).toNat)
            case atStart => exact ⟨1, by omega, rfl, fun m h1 h2 => absurd h2 (by omega), hp2⟩
            case round =>
              clear hp2 hp1 hp hcell hpc
              obtain ⟨j, hj1, rfl, hinc, hp3⟩ := hrel
              obtain ⟨ic, icf, _, _⟩ := hp3.boxAt 0 rfl
              obtain ⟨bc, bcf, _, _⟩ := hp3.boxAt 1 rfl
              have c0 := ic 0
              have c2 := bc 2
              clear ic icf bc bcf
              have pc := (hp3.below.cell (World.block_lt_of_cell? w _ HPC.out)).trans HPC.out
              by_cases hjl : j < pk.length
              · obtain ⟨rb, roff, rfl, r0⟩ := HR.out j hjl
                obtain ⟨rb', roff', hra, r1⟩ := HR.out (j - 1) (by omega)
                simp only [Option.some.injEq, Addr.mk.injEq, and_true] at hra
                obtain ⟨rfl, rfl⟩ := hra
                have r0 := (hp3.below.cell (World.block_lt_of_cell? w _ r0)).trans r0
                have r1 := (hp3.below.cell (World.block_lt_of_cell? w _ r1)).trans r1
                by_cases hle : pk[j] ≤ pk[j - 1]
                · have hno := incB_not pk j hj1 hjl hle
                  have HNO := Lib.hid hno; clear hno
                  generalize pk[j] = pj at *
                  generalize pk[j - 1] = pj1 at *
                  go_wp2_with fail
                  go_quiet (fail)
                  go_wp2_with fail
                  go_ret
                  exact ⟨ret_int (HAT.out k hlt hf.out 10 (by rw [HST.out, if_neg (by rw [HB.out]; simp), if_neg (by rw [HB2.out]; simp), if_neg (by rw [HB3.out]; simp), if_pos HNO.out]) (by decide)).symm, (hp3.drewN _).none⟩
                · have HLT := Lib.hid (Int.not_le.1 hle)
                  go_wp2_with fail
                  go_quiet (fail)
                  go_wp2_with fail
                  go_roundw
                  case rel =>
                    refine ⟨j + 1, by omega, by go_num, fun m h1 h2 hm => ?_, hp3.drewN _⟩
                    rcases Nat.lt_or_ge m j with h3 | h3
                    · exact hinc.out m h1 h3 hm
                    · obtain rfl : m = j := by omega
                      exact HLT.out
                  case measure => simp [intOf];omega
              · have hinc2 := incB_of pk (fun m h1 hm => hinc.out m h1 (by omega) hm)
                have HI2 := Lib.hid hinc2; clear hinc2
                go_wp2_with fail
                go_roundw
                case rel =>
                  exact ⟨k + 1, by omega, by go_num, firstErr_step _ _ hf.out (by rw [HST.out, if_neg (by rw [HB.out]; simp), if_neg (by rw [HB2.out]; simp), if_neg (by rw [HB3.out]; simp), if_neg (by rw [HI2.out]; simp)]), hp3.drop1⟩
                case measure => simp [intOf];omega
    · obtain rfl : k = s.names.length := by omega
      go_wp2_with fail
      go_ret
      exact ⟨ret_int (HOK.out hf.out).symm, hp.none⟩
end Go.Proofs.YtdigdmnnjbndlaaGreatDoor
namespace Go.Proofs.YtdigdmnnjbndlaaGreatDoor
open Go.RowKit
theorem least {p : Nat → Prop} : ∀ j, p j → ∃ i, i ≤ j ∧ p i ∧ ∀ m, m < i → ¬ p m := by
  intro j
  induction j using Nat.strongRecOn with
  | ind j ih =>
    intro hj
    by_cases h : ∃ m, m < j ∧ p m
    · obtain ⟨m, hm, hpm⟩ := h
      obtain ⟨i, hi, h1, h2⟩ := ih m hm hpm
      exact ⟨i, by omega, h1, h2⟩
    · exact ⟨j, Nat.le_refl _, hj, fun m hm hpm => h ⟨m, hm, hpm⟩⟩
theorem place_ne (xs : List ByteArray) (k : Nat) (hk : k < xs.length) : (Lib.idxOfS xs xs[k] != (k : Int)) = Lib.containsS (xs.take k) xs[k] := by
  rw [Bool.eq_iff_iff, bne_iff_ne, Lib.containsS_iff]
  have hg : xs.getD k ByteArray.empty = xs[k] := by simp [hk]
  constructor
  · intro h
    by_cases hm : xs[k] ∈ xs.take k
    · exact hm
    · exfalso
      apply h
      have := Lib.idxOfS_hit xs xs.length k xs[k] hk (Nat.le_refl _) hg (fun j hj e => hm ?_)
      · rw [List.take_length] at this; exact this
      · have hj2 : j < xs.length := by omega
        rw [show xs.getD j ByteArray.empty = xs[j] from by simp [hj2]] at e
        rw [← e]
        exact List.mem_take_iff_getElem.2 ⟨j, by omega, rfl⟩
  · intro hm h
    obtain ⟨j, hj, e⟩ := List.mem_take_iff_getElem.1 hm
    -- the first place is at most j
    have hjk : j < k := by omega
    have hfirst : ∃ i, i ≤ j ∧ xs.getD i ByteArray.empty = xs[k] ∧ ∀ m, m < i → xs.getD m ByteArray.empty ≠ xs[k] := by
      exact least (p := fun i => xs.getD i ByteArray.empty = xs[k]) j (by rw [show xs.getD j ByteArray.empty = xs[j]'(by omega) from by simp [show j < xs.length by omega]]; exact e)
    obtain ⟨i, hi, h1, h2⟩ := hfirst
    have := Lib.idxOfS_hit xs xs.length i xs[k] (by omega) (Nat.le_refl _) h1 h2
    rw [List.take_length] at this
    omega
set_option maxRecDepth 100000 in
set_option maxHeartbeats 4000000 in
theorem rstCheck_any (v : Value) (s : Stem) (w : World) (h : Stm w v s) :
    Calls Tryz.prog 12 #[v] w fun e w' => e = .returned (.int .i64 (stCheck s)) ∧ Hp w.heap.size w w' [] := by
  obtain ⟨nv, ev, pv, rfl, hS, hE, hP⟩ := h
  obtain ⟨na, ncap, rfl, hnl, hN⟩ := hS.at
  obtain ⟨ea, ecap, rfl, hel, hE'⟩ := hE.at
  obtain ⟨pa, pcap, rfl, hpl, hP'⟩ := hP.at
  have HS := Lib.hid hS; clear hS
  have HN := Lib.hid hN; clear hN
  have HP := Lib.hid hP'; clear hP' hE' hE hP
  have hp0 := (Hp.refl w).box 34 #[.slice na s.names.length ncap, .slice ea s.ext.length ecap, .slice pa s.par.length pcap]
  by_cases h0 : s.names.length = 0
  · have e : stCheck s = 5 := by rw [stCheck, if_pos h0]
    have HE := Lib.hid e; clear e
    have hc : ((s.names.length : Int) == 0) = true := by rw [beq_iff_eq];omega
    have H0 := Lib.hid h0; clear h0
    go_enter Tryz.func12, Tryz.ntmps12
    go_wp2_with fail
    go_ret
    exact ⟨ret_int HE.out.symm, hp0.none⟩
  have hc : ((s.names.length : Int) == 0) = false := by rw [beq_eq_false_iff_ne];omega
  by_cases h64 : 64 < s.names.length
  · have e : stCheck s = 4 := by rw [stCheck, if_neg h0, if_pos h64]
    have HE := Lib.hid e; clear e
    go_enter Tryz.func12, Tryz.ntmps12
    go_wp2_with fail
    go_ret
    exact ⟨ret_int HE.out.symm, hp0.none⟩
  by_cases he : s.ext.length = s.names.length
  case neg =>
    have e : stCheck s = 9 := by rw [stCheck, if_neg h0, if_neg h64, if_pos (.inl he)]
    have HE := Lib.hid e; clear e
    have hc2 : ((s.ext.length : Int) != s.names.length) = true := by rw [bne_iff_ne];omega
    go_enter Tryz.func12, Tryz.ntmps12
    go_wp2_with fail
    go_ret
    exact ⟨ret_int HE.out.symm, hp0.none⟩
  by_cases hpp : s.par.length = s.names.length
  case neg =>
    have e : stCheck s = 9 := by rw [stCheck, if_neg h0, if_neg h64, if_pos (.inr hpp)]
    have HE := Lib.hid e; clear e
    have hc2 : ((s.ext.length : Int) != s.names.length) = false := by rw [bne_eq_false_iff_eq];omega
    have hc3 : ((s.par.length : Int) != s.names.length) = true := by rw [bne_iff_ne];omega
    have HH := Lib.hid he; clear he
    go_enter Tryz.func12, Tryz.ntmps12
    go_wp2_with fail
    go_ret
    exact ⟨ret_int HE.out.symm, hp0.none⟩
  have hc2 : ((s.ext.length : Int) != s.names.length) = false := by rw [bne_eq_false_iff_eq];omega
  have hc3 : ((s.par.length : Int) != s.names.length) = false := by rw [bne_eq_false_iff_eq];omega
  have HAT := Lib.hid (stCheck_at s · h0 h64 he hpp)
  have HOK := Lib.hid (stCheck_ok s h0 h64 he hpp)
  have HHE := Lib.hid he; clear he
  have HHP := Lib.hid hpp; clear hpp
  go_enter Tryz.func12, Tryz.ntmps12
  go_wp2_with fail
  go_loopw [4] (fun i wr => ∃ k : Nat, k ≤ s.names.length ∧ i = .int .i64 k ∧ Hid (firstErr (stAt s) k = 0) ∧
      Hp w.heap.size w wr [.box 34 w.heap.size [.slice na s.names.length ncap, .slice ea s.ext.length ecap, .slice pa s.par.length pcap]]) (fun i _ => s.names.length - (intOf i).toNat)
  case atStart => exact ⟨0, by omega, rfl, rfl, hp0⟩
  case round =>
    clear hp0
    obtain ⟨k, hk, rfl, hf, hp⟩ := hrel
    by_cases hlt : k < s.names.length
    · obtain ⟨bc, bf, bb, bl⟩ := hp.boxAt 0 rfl
      have b0 := bc 0
      have b2 := bc 2
      clear bc bf
      obtain ⟨hsz, nb, noff, rfl, hcell⟩ := HN.out k hlt
      have HNC := Lib.hid hcell
      have hcell := (hp.below.cell (World.block_lt_of_cell? w _ hcell)).trans hcell
      have hkp : k < s.par.length := by rw [HHP.out]; exact hlt
      obtain ⟨pb, poff, u, rfl, hpc, hpi⟩ := HP.out k hkp
      have HPC := Lib.hid hpc; clear hpc
      obtain ⟨ra, rcap, rfl, hrl, hr⟩ := hpi.at
      have HPI := Lib.hid hpi; clear hpi
      have HR := Lib.hid hr; clear hr
      have hst : stAt s k = if leafNm s.names[k] = false then 14 else if Lib.containsS (s.names.take k) s.names[k] = true then 7 else if rngB s.par[k] k = true then 2 else if incB s.par[k] = false then 10 else 0 := by
        rw [stAt]; simp [hlt, hkp]
      have HST := Lib.hid hst; clear hst
      have HPL := Lib.hid (place_ne s.names k hlt)
      generalize hnm : s.names[k] = nm at *
      generalize hpk : s.par[k] = pk at *
      have HX1 := Lib.hid hnm; clear hnm
      have HX2 := Lib.hid hpk; clear hpk
      go_wp2_with fail
      refine (named_any nm _ hsz).mono ?_
      rintro e w1 ⟨rfl, hq1⟩
      have hp1 : Hp w.heap.size w w1 _ := hp.call hq1
      clear hp hcell b0 b2
      cases hb : leafNm nm with
      | false =>
        go_wp2_with fail
        go_ret
        exact ⟨ret_int (HAT.out k hlt hf.out 14 (by rw [HST.out, if_pos hb]) (by decide)).symm, hp1.none⟩
      | true =>
        have HB := Lib.hid hb; clear hb
        obtain ⟨bc, bf, _, _⟩ := hp1.boxAt 0 rfl
        have b0 := bc 0
        have b2 := bc 2
        clear bc bf
        have hcell := (hp1.below.cell (World.block_lt_of_cell? w _ HNC.out)).trans HNC.out
        have hpc := (hp1.below.cell (World.block_lt_of_cell? w _ HPC.out)).trans HPC.out
        have hS1 := HS.out.below hp1.below
        have HS1 := Lib.hid hS1; clear hS1
        cases hb2 : Lib.containsS (s.names.take k) nm with
        | true =>
          have hpl' : (Lib.idxOfS s.names nm != (k : Int)) = true := HPL.out.trans hb2
          have HB2 := Lib.hid hb2; clear hb2
          go_wp2_with fail
          go_quiet ((go_at_call 49; exact Calls.quiet_of_same ((place_any _ _ _ _ (HS1.out.below (Quiet.below ⟨_, rfl⟩))).mono fun e w' ⟨h1, h2⟩ => ⟨h1, h2.symm⟩)))
          go_wp2_with fail
          go_ret
          exact ⟨ret_int (HAT.out k hlt hf.out 7 (by rw [HST.out, if_neg (by rw [HB.out]; simp), if_pos HB2.out]) (by decide)).symm, (hp1.drewN _).none⟩
        | false =>
          have hpl' : (Lib.idxOfS s.names nm != (k : Int)) = false := HPL.out.trans hb2
          have HB2 := Lib.hid hb2; clear hb2
          go_wp2_with fail
          go_quiet ((go_at_call 49; exact Calls.quiet_of_same ((place_any _ _ _ _ (HS1.out.below (Quiet.below ⟨_, rfl⟩))).mono fun e w' ⟨h1, h2⟩ => ⟨h1, h2.symm⟩)))
          go_wp2_with fail
          obtain ⟨wo, rfl⟩ : ∃ wo : World, wo = wr := ⟨_, rfl⟩
          go_loopw [5] (fun i wi => ∃ j : Nat, j ≤ pk.length ∧ i = .int .i64 j ∧ Hid (∀ m, m < j → (hm : m < pk.length) → (decide (pk[m] < 0) || decide ((k : Int) ≤ pk[m])) = false) ∧
              Hp w.heap.size w wi [.box 34 w.heap.size [.slice (some ⟨nb, noff, none⟩) s.names.length ncap, .slice ea s.ext.length ecap, .slice (some ⟨pb, poff, none⟩) s.par.length pcap]]) (fun i _ => pk.length - (intOf i).toNat)
          case atStart => exact ⟨0, by omega, rfl, fun m h1 => absurd h1 (by omega), hp1.drewN _⟩
          case round =>
            clear hp1 hcell hpc b0 b2
            obtain ⟨j, hjn, rfl, hno, hp3⟩ := hrel
            obtain ⟨bc, bcf, _, _⟩ := hp3.boxAt 0 rfl
            have c2 := bc 2
            clear bc bcf
            have pc := (hp3.below.cell (World.block_lt_of_cell? w _ HPC.out)).trans HPC.out
            by_cases hjl : j < pk.length
            · obtain ⟨rb, roff, rfl, r0⟩ := HR.out j hjl
              have r0 := (hp3.below.cell (World.block_lt_of_cell? w _ r0)).trans r0
              cases hbad : (decide (pk[j] < 0) || decide ((k : Int) ≤ pk[j])) with
              | true =>
                have hany : rngB pk k = true := List.any_eq_true.2 ⟨pk[j], List.getElem_mem hjl, hbad⟩
                have HANY := Lib.hid hany; clear hany
                generalize pk[j] = pj at *
                by_cases h1 : pj < 0
                · go_wp2_with fail
                  go_ret
                  exact ⟨ret_int (HAT.out k hlt hf.out 2 (by rw [HST.out, if_neg (by rw [HB.out]; simp), if_neg (by rw [HB2.out]; simp), if_pos HANY.out]) (by decide)).symm, hp3.none⟩
                · have h2 : (k : Int) ≤ pj := by simpa [h1] using hbad
                  clear hbad
                  go_wp2_with fail
                  go_ret
                  exact ⟨ret_int (HAT.out k hlt hf.out 2 (by rw [HST.out, if_neg (by rw [HB.out]; simp), if_neg (by rw [HB2.out]; simp), if_pos HANY.out]) (by decide)).symm, hp3.none⟩
              | false =>
                have HBAD := Lib.hid hbad
                have h12 : ¬ pk[j] < 0 ∧ ¬ (k : Int) ≤ pk[j] := by simpa using hbad
                obtain ⟨h1, h2⟩ := h12
                clear hbad
                go_wp2_with fail
                go_roundw
                case rel =>
                  refine ⟨j + 1, by omega, by go_num, fun m h1 hm => ?_, hp3⟩
                  rcases Nat.lt_or_ge m j with h3 | h3
                  · exact hno.out m h3 hm
                  · obtain rfl : m = j := by omega
                    exact HBAD.out
                case measure => simp [intOf];omega
            · have hb3 : rngB pk k = false := by
                rw [rngB, List.any_eq_false]
                intro x hx
                obtain ⟨m, hm, rfl⟩ := List.getElem_of_mem hx
                rw [hno.out m (by omega) hm]; simp
              have HB3 := Lib.hid hb3; clear hb3
              go_wp2_with fail
              go_loopw [6] (fun i wi => ∃ j : Nat, 1 ≤ j ∧ i = .int .i64 j ∧ Hid (∀ m, 1 ≤ m → m < j → (hm : m < pk.length) → pk[m - 1]'(by omega) < pk[m]) ∧
                  Hp w.heap.size w wi [.box 34 w.heap.size [.slice (some ⟨nb, noff, none⟩) s.names.length ncap, .slice ea s.ext.length ecap, .slice (some ⟨pb, poff, none⟩) s.par.length pcap]]) (fun i _ => pk.length - (intOf i).toNat)
              case atStart => exact ⟨1, by omega, rfl, fun m h1 h2 => absurd h2 (by omega), hp3⟩
              case round =>
                clear hp3 c2 pc
                obtain ⟨j, hj1, rfl, hinc, hp3⟩ := hrel
                obtain ⟨bc, bcf, _, _⟩ := hp3.boxAt 0 rfl
                have c2 := bc 2
                clear bc bcf
                have pc := (hp3.below.cell (World.block_lt_of_cell? w _ HPC.out)).trans HPC.out
                by_cases hjl : j < pk.length
                · obtain ⟨rb, roff, rfl, r0⟩ := HR.out j hjl
                  obtain ⟨rb', roff', hra, r1⟩ := HR.out (j - 1) (by omega)
                  simp only [Option.some.injEq, Addr.mk.injEq, and_true] at hra
                  obtain ⟨rfl, rfl⟩ := hra
                  have r0 := (hp3.below.cell (World.block_lt_of_cell? w _ r0)).trans r0
                  have r1 := (hp3.below.cell (World.block_lt_of_cell? w _ r1)).trans r1
                  by_cases hle : pk[j] ≤ pk[j - 1]
                  · have hno := incB_not pk j hj1 hjl hle
                    have HNO := Lib.hid hno; clear hno
                    generalize pk[j] = pj at *
                    generalize pk[j - 1] = pj1 at *
                    go_wp2_with fail
                    go_quiet (fail)
                    go_wp2_with fail
                    go_ret
                    exact ⟨ret_int (HAT.out k hlt hf.out 10 (by rw [HST.out, if_neg (by rw [HB.out]; simp), if_neg (by rw [HB2.out]; simp), if_neg (by rw [HB3.out]; simp), if_pos HNO.out]) (by decide)).symm, (hp3.drewN _).none⟩
                  · have HLT := Lib.hid (Int.not_le.1 hle)
                    go_wp2_with fail
                    go_quiet (fail)
                    go_wp2_with fail
                    go_roundw
                    case rel =>
                      refine ⟨j + 1, by omega, by go_num, fun m h1 h2 hm => ?_, hp3.drewN _⟩
                      rcases Nat.lt_or_ge m j with h3 | h3
                      · exact hinc.out m h1 h3 hm
                      · obtain rfl : m = j := by omega
                        exact HLT.out
                    case measure => simp [intOf];omega
                · have hinc2 := incB_of pk (fun m h1 hm => hinc.out m h1 (by omega) hm)
                  have HI2 := Lib.hid hinc2; clear hinc2
                  go_wp2_with fail
                  go_roundw
                  case rel =>
                    exact ⟨k + 1, by omega, by go_num, firstErr_step _ _ hf.out (by rw [HST.out, if_neg (by rw [HB.out]; simp), if_neg (by rw [HB2.out]; simp), if_neg (by rw [HB3.out]; simp), if_neg (by rw [HI2.out]; simp)]), hp3⟩
                  case measure => simp [intOf];omega
    · obtain rfl : k = s.names.length := by omega
      go_wp2_with fail
      go_ret
      exact ⟨ret_int (HOK.out hf.out).symm, hp.none⟩
end Go.Proofs.YtdigdmnnjbndlaaGreatDoor
namespace Go.Proofs.YtdigdmnnjbndlaaGreatDoor
open Go.RowKit
set_option maxRecDepth 100000 in
set_option maxHeartbeats 4000000 in
theorem stCheck_sat (v : Value) (s : Stem) (w : World) (h : Stm w v s) : SatV Tryz.prog 23 [v] w (.int .i64 (stCheck s)) :=
  Sat.lib ⟨_, _, Tryz.func23, by kernel_rfl, rfl⟩ fun w1 hb => (stCheck_any v s w1 (h.below hb)).mono fun e w' ⟨h1, h2⟩ => ⟨_, [], h1, h2, rfl, rfl⟩
set_option maxRecDepth 100000 in
set_option maxHeartbeats 4000000 in
theorem rstCheck_sat (v : Value) (s : Stem) (w : World) (h : Stm w v s) : SatV Tryz.prog 12 [v] w (.int .i64 (stCheck s)) :=
  Sat.lib ⟨_, _, Tryz.func12, by kernel_rfl, rfl⟩ fun w1 hb => (rstCheck_any v s w1 (h.below hb)).mono fun e w' ⟨h1, h2⟩ => ⟨_, [], h1, h2, rfl, rfl⟩
end Go.Proofs.YtdigdmnnjbndlaaGreatDoor
namespace Go.Proofs.YtdigdmnnjbndlaaGreatDoor
open Go.RowKit
section
variable {P : Program} {n : Nat} {w0 : World} {K : Fm → List Res → Prop} {F : Fm} {L : List Res} {m : Md} {Lw : List Res} {ops : Array Oper} {rest : List Oper}
  {d : Option Nat} {ty : TypeId} {pos : String} {aft : Array Edge}
theorem OKx_slit4 {t e bytes : Nat} {z : Value} [T : TSlice P t e 1 bytes z] {x1 x2 x3 x4 : Operand} {v1 v2 v3 v4 : Value} [hE : Keeps w0 L Lw] (h1 : rv n F x1 = v1) (h2 : rv n F x2 = v2) (h3 : rv n F x3 = v3) (h4 : rv n F x4 = v4) (c1 : v1.cells = #[v1]) (c2 : v2.cells = #[v2]) (c3 : v3.cells = #[v3]) (c4 : v4.cells = #[v4])
    (kk : ∀ g, OKx P n w0 (.seq Lw) ops K rest (updo F d (.slice (some ⟨g, 0, none⟩) 4 4)) (.row e 1 (.slice (some ⟨g, 0, none⟩) 4 4) 4 [v1, v2, v3, v4] :: L)) :
    OKx P n w0 (.seq Lw) ops K (⟨d, .buildSlice t 4 #[(0, x1), (1, x2), (2, x3), (3, x4)], ty, pos, aft, none⟩ :: rest) F L :=
  OKx_slit (sz := 1) (vs := [v1, v2, v3, v4]) (cs := [[v1], [v2], [v3], [v4]]) [v1, v2, v3, v4] rfl (by simp [h1, h2, h3, h4]) (by simp [c1, c2, c3, c4]) rfl rfl rfl kk
theorem max2_run {k : IntKind} {a b : Int} {w : World} : (Builtin.max2 (.int k a) (.int k b)).run P w = .ok (.int k (max a b)) w := by
  have e : (if b > a then b else a) = max a b := by split <;> omega
  simp [Builtin.max2, e]
theorem OKx_max4 {x1 x2 x3 x4 : Operand} {tt : Array TypeId} {k : IntKind} {a b c e r : Int} (h1 : rv n F x1 = .int k a) (h2 : rv n F x2 = .int k b) (h3 : rv n F x3 = .int k c) (h4 : rv n F x4 = .int k e) (hr : max (max (max a b) c) e = r)
    (kk : OKx P n w0 m ops K rest (updo F d (.int k r)) L) : OKx P n w0 m ops K (⟨d, .call { callee := .builtin .max, args := #[x1, x2, x3, x4], argTypes := tt }, ty, pos, aft, none⟩ :: rest) F L := by
  subst hr
  refine OKx_still (fun w _ _ _ _ _ => ?_) kk
  simp [execOp, resolve, invoke, builtin, h1, h2, h3, h4, Builtin.max_, max2_run, Sem.run_bind, Result.andThen]
end
section
variable {B : Nat} {w0 w : World} {L : List Res}
def strs (xs : List ByteArray) : List Value := xs.map Value.string
theorem Hp.strs (h : Hp B w0 w L) (i : Nat) {e : TypeId} {n : Nat} {v : Value} {xs : List ByteArray} (hi : L[i]? = some (.row e 1 v n (strs xs))) (hn : n ≤ 140737488355328) (hs : ∀ s ∈ xs, s.size ≤ 140737488355328) : Strs w v xs := by
  have ho : w.ownsRow B e 1 v n (Go.Proofs.YtdigdmnnjbndlaaGreatDoor.strs xs) := h.ok _ (List.mem_of_getElem? hi)
  have hl := ho.1
  simp only [Go.Proofs.YtdigdmnnjbndlaaGreatDoor.strs, List.length_map, Nat.mul_one] at hl
  subst hl
  refine ⟨h.sl i hi hn fun j hj => ?_, hs⟩
  have hj' : j < xs.length := by omega
  simp [Go.Proofs.YtdigdmnnjbndlaaGreatDoor.strs, hj']
theorem Hp.tabs (h : Hp B w0 w L) (i : Nat) {e : TypeId} {n : Nat} {v : Value} {vs : List Value} {xs : List (List Int)} (hi : L[i]? = some (.row e 1 v n vs)) (hn : n ≤ 140737488355328) (hl : xs.length = n) (hv : ∀ j, j < n → Ints w (vs.getD j undef) (xs.getD j [])) : Tabs w v xs := by
  have ho : w.ownsRow B e 1 v n vs := h.ok _ (List.mem_of_getElem? hi)
  have hvl := ho.1
  rw [Nat.mul_one] at hvl
  subst hl
  refine ⟨vs, h.sl i hi hn fun j hj => ?_, hvl, fun j hj => ?_⟩
  · have hj' : j < vs.length := by omega
    simp [hj']
  · have := hv j hj
    rwa [getD_lt _ _ _ hj] at this
theorem Hp.stm (h : Hp B w0 w L) (i j k : Nat) {e1 e2 e3 : TypeId} {n1 n2 n3 : Nat} {nv ev pv : Value} {ns : List ByteArray} {es : List Bool} {vs : List Value} {ps : List (List Int)} (hi : L[i]? = some (.row e1 1 nv n1 (Go.Proofs.YtdigdmnnjbndlaaGreatDoor.strs ns))) (hj : L[j]? = some (.row e2 1 ev n2 (Go.Proofs.YtdigdmnnjbndlaaGreatDoor.bools es))) (hk : L[k]? = some (.row e3 1 pv n3 vs))
    (b1 : n1 ≤ 1000) (b2 : n2 ≤ 1000) (b3 : n3 ≤ 1000) (hs : (ns.all fun s => decide (s.size ≤ 1000)) = true) (hl : ps.length = n3) (hv : ∀ j, j < n3 → Ints w (vs.getD j undef) (ps.getD j [])) : Stm w (.agg #[nv, ev, pv]) ⟨ns, es, ps⟩ :=
  ⟨nv, ev, pv, rfl, h.strs i hi (by omega) (fun s hm => by have := List.all_eq_true.1 hs s hm; have := of_decide_eq_true this;omega), h.bools j hj (by omega), h.tabs k hk (by omega) hl hv⟩
theorem ltn2 {p : Nat → Prop} (h0 : p 0) (h1 : p 1) : ∀ j, j < 2 → p j
  | 0, _ => h0
  | 1, _ => h1
  | j + 2, h => absurd h (by omega)
theorem ltn3 {p : Nat → Prop} (h0 : p 0) (h1 : p 1) (h2 : p 2) : ∀ j, j < 3 → p j
  | 0, _ => h0
  | 1, _ => h1
  | 2, _ => h2
  | j + 3, h => absurd h (by omega)
theorem ltn4 {p : Nat → Prop} (h0 : p 0) (h1 : p 1) (h2 : p 2) (h3 : p 3) : ∀ j, j < 4 → p j
  | 0, _ => h0
  | 1, _ => h1
  | 2, _ => h2
  | 3, _ => h3
  | j + 4, h => absurd h (by omega)
end
set_option maxRecDepth 100000 in
set_option maxHeartbeats 4000000 in
theorem equalT_sat (v u : Value) (xs ys : List Int) (w : World) (h : Ints w v xs) (k : Ints w u ys) (e : xs = ys) : SatV Tryz.prog 33 [v, u] w (.bool true) := by
  have := equal_int_sat v u xs ys w h k
  rwa [show (xs == ys) = true by rw [e]; simp] at this
end Go.Proofs.YtdigdmnnjbndlaaGreatDoor
namespace Go.Proofs.YtdigdmnnjbndlaaGreatDoor
open Go.RowKit
theorem Fr.yieldU {n : Nat} {F : Fm} {ops : Array Oper} {a : Act} (hf : Fr n a F) {j t : Nat} (hj : (ops[j]?).bind (·.dst) = some t) (hb : rv n F (.tmp t) = undef) : yielded ops a.tmps j = none := by
  have he := hf.eval
  have h1 : a.eval (.tmp t) = undef := by rw [he]; exact hb
  unfold yielded
  rw [hj]
  simp only [Option.bind_some]
  simp only [Act.eval, Frame.eval] at h1
  split
  · rename_i b h2
    simp [h2, undef] at h1
  · rfl
theorem OKx_guardU {P : Program} {n : Nat} {w0 : World} {K : Fm → List Res → Prop} {F : Fm} {L : List Res} {m : Md} {ops : Array Oper} {rest : List Oper} {d : Option Nat} {o : Op} {ty : TypeId} {pos : String} {aft : Array Edge} {j t : Nat} {b : Bool} (hj : (ops[j]?).bind (·.dst) = some t) (hb : rv n F (.tmp t) = undef)
    (h : OKx P n w0 m ops K rest (updo F d undef) L) : OKx P n w0 m ops K (⟨d, o, ty, pos, aft, some (j, b)⟩ :: rest) F L := by
  have key : ∀ a : Act, Fr n a F → Region.wanted (⟨d, o, ty, pos, aft, some (j, b)⟩ : Oper) (yielded ops a.tmps) = false := by
    intro a hf
    simp only [Region.wanted, Fr.yieldU hf hj hb]
    cases b <;> rfl
  unfold OKx at h ⊢
  cases m with
  | seq Lw =>
    intro w a hf hp
    have h1 := h w _ (hf.put d undef) hp
    refine ⟨h1.cls, ?_⟩
    rw [key a hf]
    exact h1
  | quiet =>
    intro a hf
    unfold wpQuiet
    rw [key a hf]
    exact h _ (hf.put d undef)
  | pure =>
    intro a hf
    unfold wpPure
    rw [key a hf]
    exact h _ (hf.put d undef)
end Go.Proofs.YtdigdmnnjbndlaaGreatDoor
namespace Go.Proofs.YtdigdmnnjbndlaaGreatDoor
open Go.RowKit
structure Tre where
  par : List Int
  names : List ByteArray
def Tri (w : World) (v : Value) (t : Tre) : Prop := ∃ pv nv, v = .agg #[pv, nv] ∧ Ints w pv t.par ∧ Strs w nv t.names
end Go.Proofs.YtdigdmnnjbndlaaGreatDoor
