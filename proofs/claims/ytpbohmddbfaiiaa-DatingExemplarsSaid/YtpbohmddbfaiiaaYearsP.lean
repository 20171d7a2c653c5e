/-
  dating.earliest and dating.latest. No statement of the seat is proved here.
-/
import Derived.Test.YtpbohmddbfaiiaaYears
namespace Go.Proofs.Ytpbohmddbfaiiaa
open Go.RowKit

def RowP (n : Nat) (xs : List Int) (w : World) (e : Ending) (w' : World) : Prop := ∃ g cap, e = .returned (.slice (some ⟨g, 0, none⟩) n cap) ∧ Hp w.heap.size w w' [.row 3 1 (.slice (some ⟨g, 0, none⟩) n cap) n (ints xs)]

set_option maxRecDepth 100000 in
set_option maxHeartbeats 4000000 in
theorem earliest_any (c0 c1 pv v : Value) (par : List (List Int)) (xs : List Int) (n : Nat) (w : World) (hP : Tabs w pv par) (hI : Ints w v xs) (hn : par.length = n) (hn1 : 0 < n) (hn64 : n ≤ 64) (hx : xs.length = n) (hok : okPar par) :
    Calls Try.prog 71 #[.agg #[c0, c1, pv], v] w (RowP n (earl par xs n) w) := by
  subst hx
  have HI := Lib.hid hI; clear hI
  have HP := Lib.hid hP; clear hP
  have HN := Lib.hid hn; clear hn
  have HOK := Lib.hid hok; clear hok
  have hp0 := (Hp.refl w).box 26 #[c0, c1, pv]
  go_enter Try.func71, Try.ntmps71
  go_wp2_with fail
  refine (clone_int v xs _ (HI.out.below hp0.below) (by omega)).mono ?_
  rintro e w1 ⟨v', rfl, hq⟩
  have hp1 : Hp w.heap.size w w1 _ := hp0.call hq
  obtain ⟨g, cap, rfl⟩ := hp1.rowForm 0 rfl (by omega)
  clear hp0 hq
  have hp2 := (hp1.box 28 #[.slice (some ⟨g, 0, none⟩) xs.length cap]).swap
  go_wp2_with fail
  go_loopw [13] (fun v wr => ∃ k : Nat, k ≤ xs.length ∧ v = .int .i64 k ∧
      Hp w.heap.size w wr [.row 3 1 (.slice (some ⟨g, 0, none⟩) xs.length cap) xs.length (ints (earl par xs k)), .box 28 w1.heap.size [.slice (some ⟨g, 0, none⟩) xs.length cap], .box 26 w.heap.size [c0, c1, pv]]) (fun v _ => xs.length - (intOf v).toNat)
  case atStart => exact ⟨0, by omega, rfl, hp2⟩
  case round =>
    clear hp2 hp1
    obtain ⟨k, hk, rfl, hp⟩ := hrel
    by_cases hlt : k < xs.length
    · go_wp2_with fail
      refine (handE_any w _ g xs.length cap _ _ c0 c1 pv par _ k hp HP.out HN.out hn64 (earl_len par xs k) HOK.out hlt).mono ?_
      rintro e w2 ⟨rfl, hp3⟩
      go_wp2_with fail
      go_roundw
      case rel => exact ⟨k + 1, by omega, by go_num, hp3⟩
      case measure => simp [intOf]; omega
    · have hkx : k = xs.length := by omega
      subst hkx
      obtain ⟨oc, _, _, _⟩ := hp.boxAt 1 rfl
      have o0 := oc 0
      clear oc
      go_wp2_with fail
      go_ret
      exact ⟨g, cap, rfl, hp.sub (by simp)⟩

set_option maxRecDepth 100000 in
set_option maxHeartbeats 4000000 in
theorem latest_any (c0 c1 pv v : Value) (par : List (List Int)) (xs : List Int) (n : Nat) (w : World) (hP : Tabs w pv par) (hI : Ints w v xs) (hn : par.length = n) (hn1 : 0 < n) (hn64 : n ≤ 64) (hx : xs.length = n) (hok : okPar par) :
    Calls Try.prog 72 #[.agg #[c0, c1, pv], v] w (RowP n (late par xs n) w) := by
  subst hx
  have HI := Lib.hid hI; clear hI
  have HP := Lib.hid hP; clear hP
  have HN := Lib.hid hn; clear hn
  have HOK := Lib.hid hok; clear hok
  have hp0 := (Hp.refl w).box 26 #[c0, c1, pv]
  go_enter Try.func72, Try.ntmps72
  go_wp2_with fail
  refine (clone_int v xs _ (HI.out.below hp0.below) (by omega)).mono ?_
  rintro e w1 ⟨v', rfl, hq⟩
  have hp1 : Hp w.heap.size w w1 _ := hp0.call hq
  obtain ⟨g, cap, rfl⟩ := hp1.rowForm 0 rfl (by omega)
  clear hp0 hq
  have hp2 := (hp1.box 28 #[.slice (some ⟨g, 0, none⟩) xs.length cap]).swap
  go_wp2_with fail
  go_loopw [7] (fun v wr => ∃ (k : Nat) (ys : List Int), k ≤ xs.length ∧ v = .int .i64 ((k : Int) - 1) ∧ Hid (late par ys k = late par xs xs.length ∧ ys.length = xs.length) ∧
      Hp w.heap.size w wr [.row 3 1 (.slice (some ⟨g, 0, none⟩) xs.length cap) xs.length (ints ys), .box 28 w1.heap.size [.slice (some ⟨g, 0, none⟩) xs.length cap], .box 26 w.heap.size [c0, c1, pv]]) (fun v _ => (intOf v + 1).toNat)
  case atStart => exact ⟨xs.length, xs, by omega, rfl, ⟨rfl, rfl⟩, hp2⟩
  case round =>
    clear hp2 hp1
    obtain ⟨k, ys, hk, rfl, hl, hp⟩ := hrel
    by_cases hk0 : 0 < k
    · obtain ⟨m, rfl⟩ : ∃ m, k = m + 1 := ⟨k - 1, by omega⟩
      have em : ((m + 1 : Nat) : Int) - 1 = (m : Int) := by omega
      rw [em]
      clear em hk0
      go_wp2_with fail
      refine (handL_any w _ g xs.length cap _ _ c0 c1 pv par ys m hp HP.out HN.out hn64 hl.out.2 HOK.out (by omega)).mono ?_
      rintro e w2 ⟨rfl, hp3⟩
      go_wp2_with fail
      go_roundw
      case rel => exact ⟨m, _, by omega, rfl, ⟨hl.out.1, (nodeL_len par ys m).trans hl.out.2⟩, hp3⟩
      case measure => simp [intOf]
    · obtain rfl : k = 0 := by omega
      have em : ((0 : Nat) : Int) - 1 = -1 := by omega
      rw [em]
      clear em
      obtain ⟨oc, _, _, _⟩ := hp.boxAt 1 rfl
      have o0 := oc 0
      clear oc
      go_wp2_with fail
      go_ret
      refine ⟨g, cap, rfl, ?_⟩
      have e : ys = late par xs xs.length := hl.out.1
      rw [← e]
      exact hp.sub (by simp)
end Go.Proofs.Ytpbohmddbfaiiaa
