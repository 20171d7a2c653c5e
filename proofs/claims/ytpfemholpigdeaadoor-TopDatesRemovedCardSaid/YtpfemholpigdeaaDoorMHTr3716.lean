/-
  Part 16 of the proof: YearsP, YearsQ, Pl37, DatC, DatR, Three, Rng37. No statement of the seat is proved here.
-/
import Derived.Test.YtpfemholpigdeaaDoorMHTr3715
import Derived.BigRegion
namespace Go.Proofs.YtpfemholpigdeaaDoor
open Go.RowKit
def RowP (n : Nat) (xs : List Int) (w : World) (e : Ending) (w' : World) : Prop := ∃ g cap, e = .returned (.slice (some ⟨g, 0, none⟩) n cap) ∧ Hp w.heap.size w w' [.row 3 1 (.slice (some ⟨g, 0, none⟩) n cap) n (ints xs)]
set_option maxRecDepth 100000 in
set_option maxHeartbeats 4000000 in
theorem earliest_any (c0 c1 pv v : Value) (par : List (List Int)) (xs : List Int) (n : Nat) (w : World) (hP : Tabs w pv par) (hI : Ints w v xs) (hn : par.length = n) (hn1 : 0 < n) (hn64 : n ≤ 64) (hx : xs.length = n) (hok : okPar par) :
    Calls Tryd.prog 109 #[.agg #[c0, c1, pv], v] w (RowP n (earl par xs n) w) := by
  subst hx
  have HI := Lib.hid hI; clear hI
  have HP := Lib.hid hP; clear hP
  have HN := Lib.hid hn; clear hn
  have HOK := Lib.hid hok; clear hok
  have hp0 := (Hp.refl w).box 26 #[c0, c1, pv]
  go_enter Tryd.func109, Tryd.ntmps109
  go_wp2_with fail
  refine (clone_int v xs _ (HI.out.below hp0.below) (by omega)).mono ?_
  rintro e w1 ⟨v', rfl, hq⟩
  have hp1 : Hp w.heap.size w w1 _ := hp0.call hq
  obtain ⟨g, cap, rfl⟩ := hp1.rowForm 0 rfl (by omega)
  clear hp0 hq
  have hp2 := (hp1.box 38 #[.slice (some ⟨g, 0, none⟩) xs.length cap]).swap
  go_wp2_with fail
  go_loopw [13] (fun v wr => ∃ k : Nat, k ≤ xs.length ∧ v = .int .i64 k ∧
      Hp w.heap.size w wr [.row 3 1 (.slice (some ⟨g, 0, none⟩) xs.length cap) xs.length (ints (earl par xs k)), .box 38 w1.heap.size [.slice (some ⟨g, 0, none⟩) xs.length cap], .box 26 w.heap.size [c0, c1, pv]]) (fun v _ => xs.length - (intOf v).toNat)
  case atStart => exact ⟨0, by omega, rfl, hp2⟩
  case round =>
    clear hp2 hp1
    obtain ⟨k, hk, rfl, hp⟩ := hrel
    by_cases hlt : k < xs.length
    · go_wp2_with fail
      refine (handE_any w _ g xs.length cap _ _ c0 c1 pv par _ k hp HP.out HN.out hn64 (earl_len par xs k) HOK.out hlt).mono ?_
      rintro e w2 ⟨rfl, hp3⟩
      go_wp2_with fail
      go_roundw
      case rel => exact ⟨k + 1, by omega, by go_num, hp3⟩
      case measure => simp [intOf];omega
    · have hkx : k = xs.length := by omega
      subst hkx
      obtain ⟨oc, _, _, _⟩ := hp.boxAt 1 rfl
      have o0 := oc 0
      clear oc
      go_wp2_with fail
      go_ret
      exact ⟨g, cap, rfl, hp.sub (by simp)⟩
set_option maxRecDepth 100000 in
set_option maxHeartbeats 4000000 in
theorem latest_any (c0 c1 pv v : Value) (par : List (List Int)) (xs : List Int) (n : Nat) (w : World) (hP : Tabs w pv par) (hI : Ints w v xs) (hn : par.length = n) (hn1 : 0 < n) (hn64 : n ≤ 64) (hx : xs.length = n) (hok : okPar par) :
    Calls Tryd.prog 110 #[.agg #[c0, c1, pv], v] w (RowP n (late par xs n) w) := by
  subst hx
  have HI := Lib.hid hI; clear hI
  have HP := Lib.hid hP; clear hP
  have HN := Lib.hid hn; clear hn
  have HOK := Lib.hid hok; clear hok
  have hp0 := (Hp.refl w).box 26 #[c0, c1, pv]
  go_enter Tryd.func110, Tryd.ntmps110
  go_wp2_with fail
  refine (clone_int v xs _ (HI.out.below hp0.below) (by omega)).mono ?_
  rintro e w1 ⟨v', rfl, hq⟩
  have hp1 : Hp w.heap.size w w1 _ := hp0.call hq
  obtain ⟨g, cap, rfl⟩ := hp1.rowForm 0 rfl (by omega)
  clear hp0 hq
  have hp2 := (hp1.box 38 #[.slice (some ⟨g, 0, none⟩) xs.length cap]).swap
  go_wp2_with fail
  go_loopw [7] (fun v wr => ∃ (k : Nat) (ys : List Int), k ≤ xs.length ∧ v = .int .i64 ((k : Int) - 1) ∧ Hid (late par ys k = late par xs xs.length ∧ ys.length = xs.length) ∧
      Hp w.heap.size w wr [.row 3 1 (.slice (some ⟨g, 0, none⟩) xs.length cap) xs.length (ints ys), .box 38 w1.heap.size [.slice (some ⟨g, 0, none⟩) xs.length cap], .box 26 w.heap.size [c0, c1, pv]]) (fun v _ => (intOf v + 1).toNat)
  case atStart => exact ⟨xs.length, xs, by omega, rfl, ⟨rfl, rfl⟩, hp2⟩
  case round =>
    clear hp2 hp1
    obtain ⟨k, ys, hk, rfl, hl, hp⟩ := hrel
    by_cases hk0 : 0 < k
    · obtain ⟨m, rfl⟩ : ∃ m, k = m + 1 := ⟨k - 1, by omega⟩
      have em : ((m + 1 : Nat) : Int) - 1 = (m : Int) := by omega
      rw [em]
      clear em hk0
      go_wp2_with fail
      refine (handL_any w _ g xs.length cap _ _ c0 c1 pv par ys m hp HP.out HN.out hn64 hl.out.2 HOK.out (by omega)).mono ?_
      rintro e w2 ⟨rfl, hp3⟩
      go_wp2_with fail
      go_roundw
      case rel => exact ⟨m, _, by omega, rfl, ⟨hl.out.1, (nodeL_len par ys m).trans hl.out.2⟩, hp3⟩
      case measure => simp [intOf]
    · obtain rfl : k = 0 := by omega
      have em : ((0 : Nat) : Int) - 1 = -1 := by omega
      rw [em]
      clear em
      obtain ⟨oc, _, _, _⟩ := hp.boxAt 1 rfl
      have o0 := oc 0
      clear oc
      go_wp2_with fail
      go_ret
      refine ⟨g, cap, rfl, ?_⟩
      have e : ys = late par xs xs.length := hl.out.1
      rw [← e]
      exact hp.sub (by simp)
end Go.Proofs.YtpfemholpigdeaaDoor
namespace Go.Proofs.YtpfemholpigdeaaDoor
open Go.RowKit
def consB (n : Nat) (xs ys : List Int) : Bool := (List.range n).all fun i => decide (xs.getD i 0 ≤ ys.getD i 0)
theorem consB_false (n : Nat) (xs ys : List Int) (i : Nat) (hi : i < n) (h : ys.getD i 0 < xs.getD i 0) : consB n xs ys = false := by
  rw [consB, List.all_eq_false]
  exact ⟨i, List.mem_range.2 hi, by simp only [decide_eq_true_eq];omega⟩
theorem consB_true (n : Nat) (xs ys : List Int) (h : ∀ i, i < n → xs.getD i 0 ≤ ys.getD i 0) : consB n xs ys = true := by
  rw [consB, List.all_eq_true]
  exact fun i hi => by simpa using h i (List.mem_range.1 hi)
def YrsP (n : Nat) (b : Bool) (xs ys : List Int) (w : World) (e : Ending) (w' : World) : Prop :=
  (b = true ∧ ∃ g1 c1 g2 c2, e = .returned (.tuple #[.slice (some ⟨g1, 0, none⟩) n c1, .slice (some ⟨g2, 0, none⟩) n c2, .bool true]) ∧
    Hp w.heap.size w w' [.row 3 1 (.slice (some ⟨g1, 0, none⟩) n c1) n (ints xs), .row 3 1 (.slice (some ⟨g2, 0, none⟩) n c2) n (ints ys)]) ∨
  (b = false ∧ e = .returned (.tuple #[.slice none 0 0, .slice none 0 0, .bool false]) ∧ Hp w.heap.size w w' [])
set_option maxRecDepth 100000 in
set_option maxHeartbeats 8000000 in
theorem years_any (ev pv dv : Value) (na : Option Addr) (n ncap : Nat) (par : List (List Int)) (ds : List Dt) (w : World) (hP : Tabs w pv par) (hd : Dats w dv ds) (hn : par.length = n) (hn1 : 0 < n) (hn64 : n ≤ 64) (hok : okPar par) (hds : ∀ d ∈ ds, 0 ≤ d.node ∧ d.node < n) :
    Calls Tryd.prog 88 #[.agg #[.slice na n ncap, ev, pv], dv] w
      (YrsP n (consB n (earl par (loOf n ds) n) (hiOf n ds)) (earl par (loOf n ds) n) (late par (hiOf n ds) n) w) := by
  have HP := Lib.hid hP; clear hP
  have HD := Lib.hid hd; clear hd
  have HN := Lib.hid hn; clear hn
  have HOK := Lib.hid hok; clear hok
  have HDS := Lib.hid hds; clear hds
  have hp0 := (Hp.refl w).box 26 #[.slice na n ncap, ev, pv]
  go_enter Tryd.func88, Tryd.ntmps88
  go_wp2_with fail
  refine (bounds_any ev pv dv na n ncap ds _ (HD.out.below hp0.below) hn64 HDS.out).mono ?_
  rintro e w1 ⟨g1, c1, g2, c2, rfl, hq⟩
  have hp1 : Hp w.heap.size w w1 _ := hp0.call hq
  clear hp0 hq
  obtain ⟨bc, _, _, hsz⟩ := hp1.boxAt 2 rfl
  have b0 := bc 0
  have b1 := bc 1
  have b2 := bc 2
  clear bc
  have HI1 := Lib.hid (hp1.ints 0 rfl (by omega))
  have HI2 := Lib.hid (hp1.ints 1 rfl (by omega))
  have HP1 := Lib.hid (HP.out.below hp1.below)
  go_wp2_with fail
  go_region_held3 (fun w' => w'.cell? ⟨w.heap.size, 0, none⟩ = some (.slice na n ncap) ∧ w'.cell? ⟨w.heap.size, 1, none⟩ = some ev ∧ w'.cell? ⟨w.heap.size, 2, none⟩ = some pv)
    (first | go_keep | exact kA | exact kB)
    (first
      | (go_at_call 109; refine (earliest_any _ _ _ _ par (loOf n ds) n _ (HP1.out.below (Quiet.below ⟨1, rfl⟩)) (HI1.out.below (Quiet.below ⟨1, rfl⟩)) HN.out hn1 hn64 (loOf_len n ds) HOK.out).mono ?_; rintro e wA ⟨gA, cA, rfl, hqA⟩; have hcA := hqA.bcell; have kA := And.intro ((hcA w.heap.size 0 hsz).trans b0) (And.intro ((hcA w.heap.size 1 hsz).trans b1) ((hcA w.heap.size 2 hsz).trans b2)))
      | (go_at_call 110; refine (latest_any _ _ _ _ par (hiOf n ds) n _ ((HP1.out.below (Quiet.below ⟨1, rfl⟩)).below hqA.below) ((HI2.out.below (Quiet.below ⟨1, rfl⟩)).below hqA.below) HN.out hn1 hn64 (hiOf_len n ds) HOK.out).mono ?_; rintro e wB ⟨gB, cB, rfl, hqB⟩; have hcB := hqB.bcell; have sA := hqA.below.size; have hszB : w.heap.size < wA.heap.size := Nat.lt_of_lt_of_le hsz sA; have kB := And.intro ((hcB w.heap.size 0 hszB).trans kA.1) (And.intro ((hcB w.heap.size 1 hszB).trans kA.2.1) ((hcB w.heap.size 2 hszB).trans kA.2.2))))
  have hp2 := ((hp1.drew.call hqA).call hqB)
  clear hp1 kA kB hcA hcB b0 b1 b2 HP1 HI1 HI2
  have HE := Lib.hid (earl_len par (loOf n ds) n)
  have HH := Lib.hid (hiOf_len n ds)
  have HLO := Lib.hid (loOf_len n ds)
  clear HD HP HOK HDS HN
  generalize hes : earl par (loOf n ds) n = es at *
  generalize hhs : hiOf n ds = hs at *
  have HES := Lib.hid hes; clear hes
  have HHS := Lib.hid hhs; clear hhs
  go_wp2_with fail
  go_loopw [4, 5, 24] (fun v4 v5 v wr => ∃ k : Nat, k ≤ n ∧ v4 = .slice (some ⟨gA, 0, none⟩) n cA ∧ v5 = .slice (some ⟨gB, 0, none⟩) n cB ∧ v = .int .i64 k ∧ Hid (∀ j, j < k → es.getD j 0 ≤ hs.getD j 0) ∧ Quiet wB wr) (fun _ _ v _ => n - (intOf v).toNat)
  case atStart => exact ⟨0, by omega, rfl, rfl, rfl, fun j hj => absurd hj (by omega), Quiet.refl _⟩
  case round =>
    obtain ⟨k, hk, rfl, rfl, rfl, hle, hq⟩ := hrel
    have hp := hp2.quiet hq
    have HPP := Lib.hid hp2
    clear hp2
    by_cases hlt : k < n
    · obtain ⟨rc1, _, _, _⟩ := hp.rowAt 1 rfl
      obtain ⟨rc3, _, _, _⟩ := hp.rowAt 3 rfl
      have e1 := rc1 k (by omega)
      have e3 := rc3 k (by omega)
      rw [ints_get _ _ (by rw [HE.out, HLO.out]; exact hlt)] at e1
      rw [ints_get _ _ (by rw [HH.out]; exact hlt)] at e3
      clear rc1 rc3
      have HBAD := Lib.hid (consB_false n es hs k hlt)
      generalize hx : es.getD k 0 = x at *
      generalize hy : hs.getD k 0 = y at *
      have HX := Lib.hid hx; clear hx
      have HY := Lib.hid hy; clear hy
      by_cases hxy : y < x
      · go_wp2_with fail
        go_quiet (fail)
        go_wp2_with fail
        go_ret3
        exact .inr ⟨HBAD.out hxy, rfl, (hp.drewN _).none⟩
      · have hxy2 := Int.not_lt.1 hxy
        clear hxy
        go_wp2_with fail
        go_quiet (fail)
        go_wp2_with fail
        go_roundw
        case rel =>
          refine ⟨k + 1, by omega, rfl, rfl, by go_num, fun j hj => ?_, hq.trans ⟨_, rfl⟩⟩
          rcases Nat.lt_or_ge j k with h1 | h1
          · exact hle.out j h1
          · obtain rfl : j = k := by omega
            rw [HX.out, HY.out]; exact hxy2
        case measure => simp [intOf];omega
    · have hkn : k = n := by omega
      subst hkn
      go_wp2_with fail
      go_ret3
      exact .inl ⟨consB_true _ _ _ hle.out, _, _, _, _, rfl, (hp.sub (L' := [_, _]) (by simp)).swap⟩
end Go.Proofs.YtpfemholpigdeaaDoor
namespace Go.Proofs.YtpfemholpigdeaaDoor
open Go.RowKit
theorem getD_set37 (xs : List Int) (i j : Nat) (v : Int) : (xs.set i v).getD j 0 = if i = j ∧ i < xs.length then v else xs.getD j 0 := by
  simp only [List.getD_eq_getElem?_getD, List.getElem?_set]
  by_cases h : i = j
  · subst h
    by_cases hl : i < xs.length
    · simp [hl]
    · simp [hl]
  · simp [h]
theorem foldE (i : Nat) (ps : List Int) : ∀ xs : List Int, i < xs.length → (∀ p ∈ ps, 0 ≤ p ∧ p < i) →
    (∀ j, j ≠ i → (ps.foldl (upE i) xs).getD j 0 = xs.getD j 0) ∧ xs.getD i 0 ≤ (ps.foldl (upE i) xs).getD i 0 ∧ (∀ p ∈ ps, xs.getD p.toNat 0 ≤ (ps.foldl (upE i) xs).getD i 0) ∧
      ((ps.foldl (upE i) xs).getD i 0 = xs.getD i 0 ∨ ∃ p ∈ ps, (ps.foldl (upE i) xs).getD i 0 = xs.getD p.toNat 0) := by
  induction ps with
  | nil => intro xs _ _; exact ⟨fun _ _ => rfl, Int.le_refl _, by simp, .inl rfl⟩
  | cons p ps ih =>
    intro xs hi hp
    rw [List.foldl_cons]
    have hp0 := hp p (by simp)
    have hlen : i < (upE i xs p).length := by rw [upE_len]; exact hi
    obtain ⟨h1, h2, h3, h4⟩ := ih (upE i xs p) hlen (fun q hq => hp q (by simp [hq]))
    have eo : ∀ j, j ≠ i → (upE i xs p).getD j 0 = xs.getD j 0 := fun j hj => by
      rw [upE, getD_set37, if_neg (fun h => hj h.1.symm)]
    have ei : (upE i xs p).getD i 0 = max (xs.getD i 0) (xs.getD p.toNat 0) := by
      rw [upE, getD_set37, if_pos ⟨rfl, hi⟩]
    refine ⟨fun j hj => (h1 j hj).trans (eo j hj), by rw [ei] at h2;omega, fun q hq => ?_, ?_⟩
    · rcases List.mem_cons.1 hq with rfl | hq
      · rw [ei] at h2;omega
      · have := h3 q hq
        have hq0 := hp q (by simp [hq])
        rw [eo q.toNat (by omega)] at this
        exact this
    · rcases h4 with h4 | ⟨q, hq, h4⟩
      · rw [ei] at h4
        rcases Int.le_total (xs.getD i 0) (xs.getD p.toNat 0) with hle | hle
        · right; exact ⟨p, by simp, by rw [h4];omega⟩
        · left; rw [h4];omega
      · right
        have hq0 := hp q (by simp [hq])
        rw [eo q.toNat (by omega)] at h4
        exact ⟨q, by simp [hq], h4⟩
theorem earl_spec (par : List (List Int)) (xs : List Int) (hok : okPar par) (hx : xs.length = par.length) : ∀ k, k ≤ par.length →
    (∀ j, k ≤ j → (earl par xs k).getD j 0 = xs.getD j 0) ∧ (∀ j, xs.getD j 0 ≤ (earl par xs k).getD j 0) ∧
    (∀ i, (hi : i < par.length) → i < k → ∀ p ∈ par[i], (earl par xs k).getD p.toNat 0 ≤ (earl par xs k).getD i 0) ∧
    (∀ i, (hi : i < par.length) → i < k → (earl par xs k).getD i 0 = xs.getD i 0 ∨ ∃ p ∈ par[i], (earl par xs k).getD i 0 = (earl par xs k).getD p.toNat 0) := by
  intro k
  induction k with
  | zero => intro _; exact ⟨fun _ _ => rfl, fun _ => Int.le_refl _, fun i _ h => absurd h (by omega), fun i _ h => absurd h (by omega)⟩
  | succ k ih =>
    intro hk
    obtain ⟨h1, h2, h3, h4⟩ := ih (by omega)
    have hkp : k < par.length := by omega
    have e : earl par xs (k + 1) = par[k].foldl (upE k) (earl par xs k) := by
      rw [earl, nodeE]; simp [hkp]
    rw [e]
    obtain ⟨f1, f2, f3, f4⟩ := foldE k par[k] (earl par xs k) (by rw [earl_len];omega) (hok k hkp)
    have old : ∀ j, j ≠ k → (par[k].foldl (upE k) (earl par xs k)).getD j 0 = (earl par xs k).getD j 0 := f1
    refine ⟨fun j hj => (old j (by omega)).trans (h1 j (by omega)), fun j => ?_, fun i hi hik p hp => ?_, fun i hi hik => ?_⟩
    · by_cases hjk : j = k
      · subst hjk; have := h2 j;omega
      · rw [old j hjk]; exact h2 j
    · have hp0 := hok i hi p hp
      by_cases hik2 : i = k
      · subst hik2
        rw [old p.toNat (by omega)]
        exact f3 p hp
      · rw [old p.toNat (by omega), old i hik2]
        exact h3 i hi (by omega) p hp
    · by_cases hik2 : i = k
      · subst hik2
        rcases f4 with f4 | ⟨p, hp, f4⟩
        · left; rw [f4]; exact h1 i (Nat.le_refl _)
        · right
          have hp0 := hok i hi p hp
          exact ⟨p, hp, by rw [f4, old p.toNat (by omega)]⟩
      · rw [old i hik2]
        rcases h4 i hi (by omega) with h4 | ⟨p, hp, h4⟩
        · exact .inl h4
        · have hp0 := hok i hi p hp
          exact .inr ⟨p, hp, by rw [h4, old p.toNat (by omega)]⟩
theorem foldL (i : Nat) (ps : List Int) : ∀ xs : List Int, i < xs.length → (∀ p ∈ ps, 0 ≤ p ∧ p < i) →
    (∀ j, i ≤ j → (ps.foldl (dnL i) xs).getD j 0 = xs.getD j 0) ∧ (∀ j, (ps.foldl (dnL i) xs).getD j 0 ≤ xs.getD j 0) ∧ (∀ p ∈ ps, (ps.foldl (dnL i) xs).getD p.toNat 0 ≤ xs.getD i 0) ∧
      (∀ y : Nat → Int, (∀ j, y j ≤ xs.getD j 0) → (∀ p ∈ ps, y p.toNat ≤ y i) → ∀ j, y j ≤ (ps.foldl (dnL i) xs).getD j 0) := by
  induction ps with
  | nil => intro xs _ _; exact ⟨fun _ _ => rfl, fun _ => Int.le_refl _, by simp, fun y hy _ j => hy j⟩
  | cons p ps ih =>
    intro xs hi hp
    rw [List.foldl_cons]
    have hp0 := hp p (by simp)
    have hlen : i < (dnL i xs p).length := by rw [dnL_len]; exact hi
    obtain ⟨h1, h2, h3, h4⟩ := ih (dnL i xs p) hlen (fun q hq => hp q (by simp [hq]))
    have eo : ∀ j, j ≠ p.toNat → (dnL i xs p).getD j 0 = xs.getD j 0 := fun j hj => by
      rw [dnL, getD_set37, if_neg (fun h => hj h.1.symm)]
    have ep : (dnL i xs p).getD p.toNat 0 = min (xs.getD p.toNat 0) (xs.getD i 0) := by
      rw [dnL, getD_set37, if_pos ⟨rfl, by omega⟩]
    have ei : (dnL i xs p).getD i 0 = xs.getD i 0 := eo i (by omega)
    refine ⟨fun j hj => (h1 j hj).trans (eo j (by omega)), fun j => ?_, fun q hq => ?_, fun y hy hyp j => ?_⟩
    · have := h2 j
      by_cases hj : j = p.toNat
      · subst hj; rw [ep] at this;omega
      · rw [eo j hj] at this; exact this
    · rcases List.mem_cons.1 hq with rfl | hq
      · have := h2 q.toNat
        rw [ep] at this;omega
      · have := h3 q hq
        rw [ei] at this; exact this
    · refine h4 y (fun j => ?_) (fun q hq => hyp q (by simp [hq])) j
      by_cases hj : j = p.toNat
      · subst hj
        rw [ep]
        have a := hy p.toNat
        have b := hyp p (by simp)
        have c := hy i
        omega
      · rw [eo j hj]; exact hy j
theorem late_spec (par : List (List Int)) (hok : okPar par) : ∀ (k : Nat) (xs : List Int), k ≤ par.length → xs.length = par.length →
    (∀ j, k ≤ j → (late par xs k).getD j 0 = xs.getD j 0) ∧ (∀ j, (late par xs k).getD j 0 ≤ xs.getD j 0) ∧
    (∀ i, (hi : i < par.length) → i < k → ∀ p ∈ par[i], (late par xs k).getD p.toNat 0 ≤ (late par xs k).getD i 0) ∧
    (∀ y : Nat → Int, (∀ j, y j ≤ xs.getD j 0) → (∀ i, (hi : i < par.length) → i < k → ∀ p ∈ par[i], y p.toNat ≤ y i) → ∀ j, y j ≤ (late par xs k).getD j 0) := by
  intro k
  induction k with
  | zero => intro xs _ _; exact ⟨fun _ _ => rfl, fun _ => Int.le_refl _, fun i _ h => absurd h (by omega), fun y hy _ j => hy j⟩
  | succ k ih =>
    intro xs hk hx
    have hkp : k < par.length := by omega
    have e : nodeL par xs k = par[k].foldl (dnL k) xs := by rw [nodeL]; simp [hkp]
    obtain ⟨f1, f2, f3, f4⟩ := foldL k par[k] xs (by omega) (hok k hkp)
    rw [← e] at f1 f2 f3 f4
    rw [late]
    obtain ⟨h1, h2, h3, h4⟩ := ih (nodeL par xs k) (by omega) ((nodeL_len par xs k).trans hx)
    refine ⟨fun j hj => (h1 j (by omega)).trans (f1 j (by omega)), fun j => Int.le_trans (h2 j) (f2 j), fun i hi hik p hp => ?_, fun y hy hyp j => ?_⟩
    · by_cases hik2 : i = k
      · subst hik2
        have a := h2 p.toNat
        have b := f3 p hp
        have c := (h1 i (Nat.le_refl _)).trans (f1 i (Nat.le_refl _))
        omega
      · exact h3 i hi (by omega) p hp
    · refine h4 y (f4 y hy (fun p hp => hyp k hkp (by omega) p hp)) (fun i hi hik p hp => hyp i hi (by omega) p hp) j
theorem earl_least (par : List (List Int)) (xs : List Int) (hok : okPar par) (hx : xs.length = par.length) (y : Nat → Int) (hy : ∀ i, i < par.length → xs.getD i 0 ≤ y i)
    (hyp : ∀ i, (hi : i < par.length) → ∀ p ∈ par[i], y p.toNat ≤ y i) : ∀ i, i < par.length → (earl par xs par.length).getD i 0 ≤ y i := by
  obtain ⟨_, _, _, h4⟩ := earl_spec par xs hok hx par.length (Nat.le_refl _)
  intro i
  induction i using Nat.strongRecOn with
  | ind i ih =>
    intro hi
    rcases h4 i hi hi with h | ⟨p, hp, h⟩
    · rw [h]; exact hy i hi
    · have hp0 := hok i hi p hp
      rw [h]
      exact Int.le_trans (ih p.toNat (by omega) (by omega)) (hyp i hi p hp)
theorem consB_late (par : List (List Int)) (lo hi : List Int) (hok : okPar par) (hl : lo.length = par.length) (hh : hi.length = par.length) :
    consB par.length (earl par lo par.length) (late par hi par.length) = consB par.length (earl par lo par.length) hi := by
  obtain ⟨_, e2, e3, _⟩ := earl_spec par lo hok hl par.length (Nat.le_refl _)
  obtain ⟨_, l2, _, l4⟩ := late_spec par hok par.length hi (Nat.le_refl _) hh
  cases h : consB par.length (earl par lo par.length) hi with
  | true =>
    apply consB_true
    intro i hi'
    rw [consB, List.all_eq_true] at h
    have hc : ∀ j, j < par.length → (earl par lo par.length).getD j 0 ≤ hi.getD j 0 := fun j hj => by simpa using h j (List.mem_range.2 hj)
    have := l4 (fun j => if j < par.length then (earl par lo par.length).getD j 0 else hi.getD j 0) (fun j => by
      split
      · exact hc j ‹_›
      · exact Int.le_refl _) (fun i hi' _ p hp => by
      have hp0 := hok i hi' p hp
      rw [if_pos (by omega), if_pos hi']
      exact e3 i hi' hi' p hp) i
    rw [if_pos hi'] at this
    exact this
  | false =>
    rw [consB, List.all_eq_false] at h
    obtain ⟨i, hi', hn⟩ := h
    have hi'' := List.mem_range.1 hi'
    refine consB_false _ _ _ i hi'' ?_
    have := l2 i
    simp only [decide_eq_true_eq] at hn
    omega
end Go.Proofs.YtpfemholpigdeaaDoor
namespace Go.Proofs.YtpfemholpigdeaaDoor
open Go.RowKit
set_option maxRecDepth 100000 in
set_option maxHeartbeats 4000000 in
theorem dCheck_any (v dv : Value) (s : Stem) (ds : List Dt) (w : World) (h : Stm w v s) (hd : Dats w dv ds) :
    Calls Tryd.prog 63 #[v, dv] w fun e w' => e = .returned (.int .i64 (dCheck s ds)) ∧ Hp w.heap.size w w' [] := by
  have HST := Lib.hid h
  obtain ⟨nv, ev, pv, rfl, hS, hE, hP⟩ := h
  obtain ⟨na, ncap, rfl, hnl, hN⟩ := hS.at
  clear hS hE hP hN
  obtain ⟨da, dcap, rfl, hdl, hD⟩ := hd.at
  have HBD := Lib.hid hd.bd
  have HD := Lib.hid hD; clear hD hd
  have hp0 := (Hp.refl w).box 26 #[.slice na s.names.length ncap, ev, pv]
  have hmm := @run_makeMap Tryd.prog
  go_enter Tryd.func63, Tryd.ntmps63
  go_wp2_with fail
  refine (stCheck_any _ s _ (HST.out.below hp0.below)).mono ?_
  rintro e w1 ⟨rfl, hq1⟩
  have hp1 : Hp w.heap.size w w1 _ := hp0.call hq1
  clear hp0
  by_cases h0 : stCheck s = 0
  case neg =>
    have hc : (stCheck s != 0) = true := by rw [bne_iff_ne]; exact h0
    have e : dCheck s ds = 1 := by rw [dCheck, if_pos h0]
    have HE := Lib.hid e; clear e h0
    go_wp2_with fail
    go_ret
    exact ⟨ret_int HE.out.symm, hp1.none⟩
  have hc : (stCheck s != 0) = false := by rw [bne_eq_false_iff_eq]; exact h0
  have HAT := Lib.hid (dCheck_at s ds · h0)
  have HOK := Lib.hid (dCheck_ok s ds h0)
  clear h0
  have hp2 := hp1.mapMade Tryd.prog 3
  rw [← seenF_zero ds] at hp2
  go_wp2_with fail
  go_loopw [14] (fun i wr => ∃ k : Nat, k ≤ ds.length ∧ i = .int .i64 k ∧ Hid (firstErr (dtAt s.names.length ds) k = 0) ∧
      Hp w.heap.size w wr [.obj w1.heap.size (MapIs Tryd.prog 3 k (seenF ds k)), .box 26 w.heap.size [.slice na s.names.length ncap, ev, pv]]) (fun i _ => ds.length - (intOf i).toNat)
  case atStart => exact ⟨0, by omega, rfl, rfl, hp2⟩
  case round =>
    clear hp2 hp1 hq1
    obtain ⟨k, hk, rfl, hf, hp⟩ := hrel
    by_cases hlt : k < ds.length
    · obtain ⟨b, off, rfl, d0, d1, d2⟩ := HD.out k hlt
      have d0 := (hp.below.cell (World.block_lt_of_cell? w _ d0)).trans d0
      have d1 := (hp.below.cell (World.block_lt_of_cell? w _ d1)).trans d1
      have d2 := (hp.below.cell (World.block_lt_of_cell? w _ d2)).trans d2
      obtain ⟨⟨n0, n1⟩, ⟨f0, f1⟩, ⟨t0, t1⟩⟩ := HBD.out ds[k] (List.getElem_mem hlt)
      obtain ⟨bc, bf, _, _⟩ := hp.boxAt 1 rfl
      have b0 := bc 0
      clear bc bf
      have HDT := Lib.hid (dtAt_eq s.names.length ds k hlt)
      have HSU := Lib.hid (seenF_succ ds k hlt)
      have HGET := Lib.hid (seenF_get ds k ds[k].node)
      generalize hdd : ds[k] = dd at *
      have HDD := Lib.hid hdd; clear hdd
      obtain ⟨nd, fr, tl⟩ := dd
      have hpb := hp.box 62 #[.int .i64 nd, .int .i64 fr, .int .i64 tl]
      by_cases hbad : dBad s.names.length ⟨nd, fr, tl⟩
      · have HDT2 := Lib.hid (HDT.out.trans (if_pos hbad))
        have HBAD := Lib.hid hbad; clear hbad
        go_wp2_with fail
        all_goals first
          | (exfalso; have hbd := HBAD.out; unfold dBad at hbd; simp only at hbd;omega)
          | (go_ret; exact ⟨ret_int (HAT.out k hlt hf.out 2 HDT2.out (by decide)).symm, hpb.none⟩)
      · have hb2 : 0 ≤ nd ∧ nd < s.names.length ∧ -5000 ≤ fr ∧ fr ≤ 5000 ∧ -5000 ≤ tl ∧ tl ≤ 5000 := by unfold dBad at hbad; simp only at hbad;omega
        obtain ⟨g0, g1, g2, g3, g4, g5⟩ := hb2
        have HDT2 := Lib.hid (HDT.out.trans (if_neg hbad))
        clear hbad n0 n1 f0 f1 t0 t1
        by_cases hord : tl < fr
        · have HDT3 := Lib.hid (HDT2.out.trans (if_pos hord))
          go_wp2_with fail
          go_ret
          exact ⟨ret_int (HAT.out k hlt hf.out 10 HDT3.out (by decide)).symm, hpb.none⟩
        · have HDT3 := Lib.hid (HDT2.out.trans (if_neg hord))
          cases hs : (ds.take k).any (fun e => e.node == nd) with
          | true =>
            have HDT4 := Lib.hid (HDT3.out.trans (if_pos hs))
            have HG := Lib.hid (HGET.out.trans (by rw [hs])); clear hs
            go_wp2_with (at_lookup; refine wpList_look_hp rfl (.tmp 53) (.tmp 55) 126 rfl hpb 1 rfl TKeyI Tryd.underlying126 (zeroBool _) rfl rfl (keyI nd (by omega) (by omega)) (litI nd) HG.out ?_)
            go_ret
            exact ⟨ret_int (HAT.out k hlt hf.out 7 HDT4.out (by decide)).symm, hpb.none⟩
          | false =>
            have HDT4 := Lib.hid (HDT3.out.trans (if_neg (by rw [hs]; simp)))
            have HG := Lib.hid (HGET.out.trans (by rw [hs])); clear hs
            go_wp2_with (first
              | (at_lookup; refine wpList_look_hp rfl (.tmp 53) (.tmp 55) 126 rfl hpb 1 rfl TKeyI Tryd.underlying126 (zeroBool _) rfl rfl (keyI nd (by omega) (by omega)) (litI nd) HG.out ?_)
              | (at_mapUpdate; refine wpList_store_hp rfl (.tmp 57) (.tmp 59) _ 126 rfl hpb 1 rfl TKeyI Tryd.underlying126 (by omega) rfl rfl rfl (keyI nd (by omega) (by omega)) (litI nd) ?_; intro w2 hp2))
            go_roundw
            case rel =>
              refine ⟨k + 1, by omega, by go_num, firstErr_step _ _ hf.out HDT4.out, ?_⟩
              rw [← HSU.out]
              exact hp2.drop1
            case measure => simp [intOf];omega
    · obtain rfl : k = ds.length := by omega
      go_wp2_with fail
      go_ret
      exact ⟨ret_int (HOK.out hf.out).symm, hp.none⟩
end Go.Proofs.YtpfemholpigdeaaDoor
namespace Go.Proofs.YtpfemholpigdeaaDoor
open Go.RowKit
set_option maxRecDepth 100000 in
set_option maxHeartbeats 4000000 in
theorem rdCheck_any (v dv : Value) (s : Stem) (ds : List Dt) (w : World) (h : Stm w v s) (hd : Dats w dv ds) :
    Calls Tryd.prog 31 #[v, dv] w fun e w' => e = .returned (.int .i64 (dCheck s ds)) ∧ Hp w.heap.size w w' [] := by
  have HST := Lib.hid h
  obtain ⟨nv, ev, pv, rfl, hS, hE, hP⟩ := h
  obtain ⟨na, ncap, rfl, hnl, hN⟩ := hS.at
  clear hS hE hP hN
  obtain ⟨da, dcap, rfl, hdl, hD⟩ := hd.at
  have HBD := Lib.hid hd.bd
  have HD := Lib.hid hD; clear hD hd
  have hp0 := (Hp.refl w).box 26 #[.slice na s.names.length ncap, ev, pv]
  go_enter Tryd.func31, Tryd.ntmps31
  go_wp2_with fail
  refine (rstCheck_any _ s _ (HST.out.below hp0.below)).mono ?_
  rintro e w1 ⟨rfl, hq1⟩
  have hp1 : Hp w.heap.size w w1 _ := hp0.call hq1
  clear hp0
  by_cases h0 : stCheck s = 0
  case neg =>
    have hc : (stCheck s != 0) = true := by rw [bne_iff_ne]; exact h0
    have e : dCheck s ds = 1 := by rw [dCheck, if_pos h0]
    have HE := Lib.hid e; clear e h0
    go_wp2_with fail
    go_ret
    exact ⟨ret_int HE.out.symm, hp1.none⟩
  have hc : (stCheck s != 0) = false := by rw [bne_eq_false_iff_eq]; exact h0
  have HAT := Lib.hid (dCheck_at s ds · h0)
  have HOK := Lib.hid (dCheck_ok s ds h0)
  clear h0
  go_wp2_with fail
  go_loopw [5] (fun i wr => ∃ k : Nat, k ≤ ds.length ∧ i = .int .i64 k ∧ Hid (firstErr (dtAt s.names.length ds) k = 0) ∧
      Hp w.heap.size w wr [.box 26 w.heap.size [.slice na s.names.length ncap, ev, pv]]) (fun i _ => ds.length - (intOf i).toNat)
  case atStart => exact ⟨0, by omega, rfl, rfl, hp1⟩
  case round =>
    clear hp1 hq1
    obtain ⟨k, hk, rfl, hf, hp⟩ := hrel
    by_cases hlt : k < ds.length
    · obtain ⟨b, off, rfl, d0, d1, d2⟩ := HD.out k hlt
      have d0 := (hp.below.cell (World.block_lt_of_cell? w _ d0)).trans d0
      have d1 := (hp.below.cell (World.block_lt_of_cell? w _ d1)).trans d1
      have d2 := (hp.below.cell (World.block_lt_of_cell? w _ d2)).trans d2
      obtain ⟨⟨n0, n1⟩, ⟨f0, f1⟩, ⟨t0, t1⟩⟩ := HBD.out ds[k] (List.getElem_mem hlt)
      obtain ⟨bc, bf, _, _⟩ := hp.boxAt 0 rfl
      have b0 := bc 0
      clear bc bf
      have HDT := Lib.hid (dtAt_eq s.names.length ds k hlt)
      generalize hdd : ds[k] = dd at *
      have HDD := Lib.hid hdd; clear hdd
      obtain ⟨nd, fr, tl⟩ := dd
      have hpb := hp.box 62 #[.int .i64 nd, .int .i64 fr, .int .i64 tl]
      by_cases hbad : dBad s.names.length ⟨nd, fr, tl⟩
      · have HDT2 := Lib.hid (HDT.out.trans (if_pos hbad))
        have HBAD := Lib.hid hbad; clear hbad
        go_wp2_with fail
        all_goals first
          | (exfalso; have hbd := HBAD.out; unfold dBad at hbd; simp only at hbd;omega)
          | (go_ret; exact ⟨ret_int (HAT.out k hlt hf.out 2 HDT2.out (by decide)).symm, hpb.none⟩)
      · have hb2 : 0 ≤ nd ∧ nd < s.names.length ∧ -5000 ≤ fr ∧ fr ≤ 5000 ∧ -5000 ≤ tl ∧ tl ≤ 5000 := by unfold dBad at hbad; simp only at hbad;omega
        obtain ⟨g0, g1, g2, g3, g4, g5⟩ := hb2
        have HDT2 := Lib.hid (HDT.out.trans (if_neg hbad))
        clear hbad n0 n1 f0 f1 t0 t1
        by_cases hord : tl < fr
        · have HDT3 := Lib.hid (HDT2.out.trans (if_pos hord))
          go_wp2_with fail
          go_ret
          exact ⟨ret_int (HAT.out k hlt hf.out 10 HDT3.out (by decide)).symm, hpb.none⟩
        · have HDT3 := Lib.hid (HDT2.out.trans (if_neg hord))
          go_wp2_with fail
          obtain ⟨wo, rfl⟩ : ∃ wo : World, wo = wr := ⟨_, rfl⟩
          go_loopw [7] (fun i wi => ∃ j : Nat, j ≤ k ∧ i = .int .i64 j ∧ Hid (∀ m, m < j → (hm : m < ds.length) → ds[m].node ≠ nd) ∧
              Hp w.heap.size w wi [.box 62 wo.heap.size [.int .i64 nd, .int .i64 fr, .int .i64 tl], .box 26 w.heap.size [.slice na s.names.length ncap, ev, pv]]) (fun i _ => k - (intOf i).toNat)
          case atStart => exact ⟨0, by omega, rfl, fun m h1 => absurd h1 (by omega), hpb⟩
          case round =>
            clear hpb hp b0 d0 d1 d2
            obtain ⟨j, hjk, rfl, hno, hp3⟩ := hrel
            obtain ⟨xc, xf, _, _⟩ := hp3.boxAt 0 rfl
            have x0 := xc 0
            clear xc xf
            by_cases hjl : j < k
            · obtain ⟨b', off', hb', e0, _, _⟩ := HD.out j (by omega)
              simp only [Option.some.injEq, Addr.mk.injEq, and_true] at hb'
              obtain ⟨rfl, rfl⟩ := hb'
              have e0 := (hp3.below.cell (World.block_lt_of_cell? w _ e0)).trans e0
              cases he : (ds[j].node == nd) with
              | true =>
                have hs : (ds.take k).any (fun e => e.node == nd) = true := List.any_eq_true.2 ⟨ds[j], List.mem_take_iff_getElem.2 ⟨j, by omega, rfl⟩, he⟩
                have HDT4 := Lib.hid (HDT3.out.trans (if_pos hs)); clear hs
                generalize ds[j].node = ej at *
                go_wp2_with fail
                go_quiet (fail)
                go_wp2_with fail
                go_ret
                exact ⟨ret_int (HAT.out k hlt hf.out 7 HDT4.out (by decide)).symm, (hp3.drewN _).none⟩
              | false =>
                have HNE := Lib.hid (beq_eq_false_iff_ne.1 he)
                go_wp2_with fail
                go_quiet (fail)
                go_wp2_with fail
                go_roundw
                case rel =>
                  refine ⟨j + 1, by omega, by go_num, fun m h1 hm => ?_, hp3.drewN _⟩
                  rcases Nat.lt_or_ge m j with h3 | h3
                  · exact hno.out m h3 hm
                  · obtain rfl : m = j := by omega
                    exact HNE.out
                case measure => simp [intOf];omega
            · have hs : ¬ ((ds.take k).any (fun e => e.node == nd) = true) := by
                intro h
                obtain ⟨e, he, h2⟩ := List.any_eq_true.1 h
                obtain ⟨m, hm, rfl⟩ := List.mem_take_iff_getElem.1 he
                exact hno.out m (by omega) (by omega) (by simpa using h2)
              have HDT4 := Lib.hid (HDT3.out.trans (if_neg hs)); clear hs
              go_wp2_with fail
              go_roundw
              case rel => exact ⟨k + 1, by omega, by go_num, firstErr_step _ _ hf.out HDT4.out, hp3.drop1⟩
              case measure => simp [intOf];omega
    · obtain rfl : k = ds.length := by omega
      go_wp2_with fail
      go_ret
      exact ⟨ret_int (HOK.out hf.out).symm, hp.none⟩
end Go.Proofs.YtpfemholpigdeaaDoor
namespace Go.Proofs.YtpfemholpigdeaaDoor
open Go.RowKit
theorem dCheck_zero (s : Stem) (ds : List Dt) (h : dCheck s ds = 0) : stCheck s = 0 ∧ ∀ k, (hk : k < ds.length) → ¬ dBad s.names.length ds[k] ∧ ds[k].fr ≤ ds[k].tl ∧ ∀ j, (hj : j < k) → ds[j].node ≠ ds[k].node := by
  unfold dCheck at h
  by_cases h0 : stCheck s = 0
  · rw [if_neg (by rw [h0]; simp)] at h
    refine ⟨h0, fun k hk => ?_⟩
    have hz := firstErr_zero _ _ h k hk
    rw [dtAt_eq _ _ _ hk] at hz
    by_cases hb : dBad s.names.length ds[k]
    · rw [if_pos hb] at hz;omega
    · rw [if_neg hb] at hz
      by_cases ho : ds[k].tl < ds[k].fr
      · rw [if_pos ho] at hz;omega
      · rw [if_neg ho] at hz
        refine ⟨hb, by omega, fun j hj he => ?_⟩
        have ha : (ds.take k).any (fun e => e.node == ds[k].node) = true := List.any_eq_true.2 ⟨ds[j], List.mem_take_iff_getElem.2 ⟨j, by omega, rfl⟩, by simpa using he⟩
        rw [if_pos ha] at hz;omega
  · rw [if_pos h0] at h;omega
theorem dCheck_nodes (s : Stem) (ds : List Dt) (h : dCheck s ds = 0) : ∀ d ∈ ds, 0 ≤ d.node ∧ d.node < s.names.length := by
  intro d hd
  obtain ⟨k, hk, rfl⟩ := List.getElem_of_mem hd
  have := (dCheck_zero s ds h).2 k hk
  unfold dBad at this
  omega
def eYrs (s : Stem) (ds : List Dt) : List Int := earl s.par (loOf s.names.length ds) s.names.length
def lYrs (s : Stem) (ds : List Dt) : List Int := late s.par (hiOf s.names.length ds) s.names.length
def yErr (s : Stem) (ds : List Dt) : Int := if dCheck s ds ≠ 0 then 1 else if consB s.names.length (eYrs s ds) (lYrs s ds) = true then 0 else 25
theorem eYrs_len (s : Stem) (ds : List Dt) : (eYrs s ds).length = s.names.length := by rw [eYrs, earl_len, loOf_len]
theorem lYrs_len (s : Stem) (ds : List Dt) : (lYrs s ds).length = s.names.length := by rw [lYrs, late_len, hiOf_len]
theorem cons_eq (s : Stem) (ds : List Dt) (h : stCheck s = 0) : consB s.names.length (earl s.par (loOf s.names.length ds) s.names.length) (hiOf s.names.length ds) = consB s.names.length (eYrs s ds) (lYrs s ds) := by
  obtain ⟨_, _, _, hp, _⟩ := stCheck_len s h
  have hok := stCheck_okPar s h
  unfold eYrs lYrs
  rw [← hp]
  exact (consB_late s.par _ _ hok (loOf_len _ _) (hiOf_len _ _)).symm
def ThP (s : Stem) (ds : List Dt) (w : World) (e : Ending) (w' : World) : Prop :=
  (yErr s ds = 0 ∧ ∃ g1 c1 g2 c2, e = .returned (.tuple #[.slice (some ⟨g1, 0, none⟩) s.names.length c1, .slice (some ⟨g2, 0, none⟩) s.names.length c2, .int .i64 0]) ∧
    Hp w.heap.size w w' [.row 3 1 (.slice (some ⟨g1, 0, none⟩) s.names.length c1) s.names.length (ints (eYrs s ds)), .row 3 1 (.slice (some ⟨g2, 0, none⟩) s.names.length c2) s.names.length (ints (lYrs s ds))]) ∨
  (yErr s ds ≠ 0 ∧ ∃ v1 v2, e = .returned (.tuple #[v1, v2, .int .i64 (yErr s ds)]) ∧ Hp w.heap.size w w' [.row 3 1 v1 0 [], .row 3 1 v2 0 []])
set_option maxRecDepth 100000 in
set_option maxHeartbeats 8000000 in
theorem check37_any (v dv : Value) (s : Stem) (ds : List Dt) (w : World) (h : Stm w v s) (hd : Dats w dv ds) :
    Calls Tryd.prog 62 #[v, dv] w (ThP s ds w) := by
  have HST := Lib.hid h
  obtain ⟨nv, ev, pv, rfl, hS, hE, hP⟩ := h
  obtain ⟨na, ncap, rfl, hnl, hN⟩ := hS.at
  have HP := Lib.hid hP
  have HD := Lib.hid hd
  clear hS hE hP hN hd
  have hp0 := (Hp.refl w).box 26 #[.slice na s.names.length ncap, ev, pv]
  go_enter Tryd.func62, Tryd.ntmps62
  go_wp2_with fail
  refine (dCheck_any _ _ s ds _ (HST.out.below hp0.below) (HD.out.below hp0.below)).mono ?_
  rintro e w1 ⟨rfl, hq1⟩
  have hp1 : Hp w.heap.size w w1 _ := hp0.call hq1
  clear hp0 hq1
  by_cases h0 : dCheck s ds = 0
  case neg =>
    have hc : (dCheck s ds != 0) = true := by rw [bne_iff_ne]; exact h0
    have e : yErr s ds = 1 := by rw [yErr, if_pos h0]
    have HE := Lib.hid e; clear e h0
    go_wp2_with fail
    go_ret3
    exact .inr ⟨by rw [HE.out]; decide, .slice none 0 0, .slice none 0 0, by rw [HE.out]; rfl, (hp1.none.nil _ _).nil _ _⟩
  have hc : (dCheck s ds != 0) = false := by rw [bne_eq_false_iff_eq]; exact h0
  have hst := (dCheck_zero s ds h0).1
  obtain ⟨hn0, hn64, _, hpl, _⟩ := stCheck_len s hst
  have hok := stCheck_okPar s hst
  have HY := Lib.hid (show yErr s ds = if consB s.names.length (eYrs s ds) (lYrs s ds) = true then 0 else 25 by rw [yErr, if_neg (by rw [h0]; simp)])
  have hyears := years_any ev pv dv na s.names.length ncap s.par ds w1 (HP.out.below hp1.below) (HD.out.below hp1.below) hpl (by omega) hn64 hok (dCheck_nodes s ds h0)
  rw [cons_eq s ds hst] at hyears
  have HYEARS := Lib.hid hyears
  clear hyears h0 hst hok hpl
  obtain ⟨bc, _, _, _⟩ := hp1.boxAt 0 rfl
  have b0 := bc 0
  have b1 := bc 1
  have b2 := bc 2
  clear bc
  go_wp2_with fail
  refine HYEARS.out.mono ?_
  rintro e w2 (⟨hb, g1, c1, g2, c2, rfl, hq2⟩ | ⟨hb, rfl, hq2⟩)
  · have hy0 : yErr s ds = 0 := by rw [HY.out, if_pos hb]
    have HY0 := Lib.hid hy0; clear hy0 hb
    have hp2 : Hp w.heap.size w w2 _ := hp1.call hq2
    go_wp2_with fail
    go_ret3
    exact .inl ⟨HY0.out, _, _, _, _, rfl, hp2.sub (by unfold eYrs lYrs; simp)⟩
  · have hy0 : yErr s ds = 25 := by rw [HY.out, if_neg (by rw [hb]; simp)]
    have HY0 := Lib.hid hy0; clear hy0 hb
    have hp2 : Hp w.heap.size w w2 _ := hp1.call hq2
    go_wp2_with fail
    go_ret3
    exact .inr ⟨by rw [HY0.out]; decide, .slice none 0 0, .slice none 0 0, by rw [HY0.out]; rfl, (hp2.none.nil _ _).nil _ _⟩
end Go.Proofs.YtpfemholpigdeaaDoor
namespace Go.Proofs.YtpfemholpigdeaaDoor
open Go.RowKit
def inY (x : Int) : Prop := -5000 ≤ x ∧ x ≤ 5000
def AllY (xs : List Int) : Prop := ∀ j, inY (xs.getD j 0)
theorem AllY.set {xs : List Int} (h : AllY xs) (i : Nat) (v : Int) (hv : inY v) : AllY (xs.set i v) := by
  intro j
  rw [getD_set37]
  split
  · exact hv
  · exact h j
theorem AllY.rep (n : Nat) (v : Int) (hv : inY v) : AllY (List.replicate n v) := by
  intro j
  simp only [List.getD_eq_getElem?_getD, List.getElem?_replicate]
  split
  · exact hv
  · exact ⟨by decide, by decide⟩
theorem AllY.fold {α : Type} (f : List Int → α → List Int) (l : List α) : ∀ (xs : List Int), (∀ ys a, a ∈ l → AllY ys → AllY (f ys a)) → AllY xs → AllY (l.foldl f xs) := by
  induction l with
  | nil => intro xs _ h; exact h
  | cons a l ih =>
    intro xs hf h
    exact ih _ (fun ys b hb => hf ys b (List.mem_cons_of_mem _ hb)) (hf xs a List.mem_cons_self h)
theorem AllY.upE {xs : List Int} (h : AllY xs) (i : Nat) (p : Int) : AllY (upE i xs p) := by
  have h1 := h i
  have h2 := h p.toNat
  exact h.set _ _ (by unfold inY at *;omega)
theorem AllY.dnL {xs : List Int} (h : AllY xs) (i : Nat) (p : Int) : AllY (dnL i xs p) := by
  have h1 := h i
  have h2 := h p.toNat
  exact h.set _ _ (by unfold inY at *;omega)
theorem AllY.earl (par : List (List Int)) {xs : List Int} (h : AllY xs) (k : Nat) : AllY (earl par xs k) := by
  induction k with
  | zero => exact h
  | succ k ih => exact AllY.fold _ _ _ (fun ys a _ hy => hy.upE k a) ih
theorem AllY.late (par : List (List Int)) (k : Nat) : ∀ {xs : List Int}, AllY xs → AllY (late par xs k) := by
  induction k with
  | zero => intro xs h; exact h
  | succ k ih => intro xs h; exact ih (AllY.fold _ _ _ (fun ys a _ hy => hy.dnL k a) h)
theorem dCheck_in (s : Stem) (ds : List Dt) (h : dCheck s ds = 0) : ∀ d ∈ ds, inY d.fr ∧ inY d.tl := by
  intro d hd
  obtain ⟨k, hk, rfl⟩ := List.getElem_of_mem hd
  have := (dCheck_zero s ds h).2 k hk
  unfold dBad at this
  unfold inY
  omega
theorem loOf_in (n : Nat) (s : Stem) (ds : List Dt) (h : dCheck s ds = 0) : AllY (loOf n ds) :=
  AllY.fold _ _ _ (fun _ d hd hy => hy.set _ _ (dCheck_in s ds h d hd).1) (AllY.rep n _ ⟨by decide, by decide⟩)
theorem hiOf_in (n : Nat) (s : Stem) (ds : List Dt) (h : dCheck s ds = 0) : AllY (hiOf n ds) :=
  AllY.fold _ _ _ (fun _ d hd hy => hy.set _ _ (dCheck_in s ds h d hd).2) (AllY.rep n _ ⟨by decide, by decide⟩)
theorem yErr_check (s : Stem) (ds : List Dt) (h : yErr s ds = 0) : dCheck s ds = 0 := by
  unfold yErr at h
  by_cases h0 : dCheck s ds = 0
  · exact h0
  · rw [if_pos h0] at h;omega
end Go.Proofs.YtpfemholpigdeaaDoor
