/-
  dating.years: the earliest and the latest years, or that there are none. No statement of the seat is proved here.
-/
import Derived.Test.YtpbohmddbfaiiaaYearsP
namespace Go.Proofs.Ytpbohmddbfaiiaa
open Go.RowKit

def consB (n : Nat) (xs ys : List Int) : Bool := (List.range n).all fun i => decide (xs.getD i 0 ≤ ys.getD i 0)
theorem consB_false (n : Nat) (xs ys : List Int) (i : Nat) (hi : i < n) (h : ys.getD i 0 < xs.getD i 0) : consB n xs ys = false := by
  rw [consB, List.all_eq_false]
  exact ⟨i, List.mem_range.2 hi, by simp only [decide_eq_true_eq]; omega⟩
theorem consB_true (n : Nat) (xs ys : List Int) (h : ∀ i, i < n → xs.getD i 0 ≤ ys.getD i 0) : consB n xs ys = true := by
  rw [consB, List.all_eq_true]
  exact fun i hi => by simpa using h i (List.mem_range.1 hi)

def YrsP (n : Nat) (b : Bool) (xs ys : List Int) (w : World) (e : Ending) (w' : World) : Prop :=
  (b = true ∧ ∃ g1 c1 g2 c2, e = .returned (.tuple #[.slice (some ⟨g1, 0, none⟩) n c1, .slice (some ⟨g2, 0, none⟩) n c2, .bool true]) ∧
    Hp w.heap.size w w' [.row 3 1 (.slice (some ⟨g1, 0, none⟩) n c1) n (ints xs), .row 3 1 (.slice (some ⟨g2, 0, none⟩) n c2) n (ints ys)]) ∨
  (b = false ∧ e = .returned (.tuple #[.slice none 0 0, .slice none 0 0, .bool false]) ∧ Hp w.heap.size w w' [])

set_option maxRecDepth 100000 in
set_option maxHeartbeats 8000000 in
theorem years_any (ev pv dv : Value) (na : Option Addr) (n ncap : Nat) (par : List (List Int)) (ds : List Dt) (w : World) (hP : Tabs w pv par) (hd : Dats w dv ds) (hn : par.length = n) (hn1 : 0 < n) (hn64 : n ≤ 64) (hok : okPar par) (hds : ∀ d ∈ ds, 0 ≤ d.node ∧ d.node < n) :
    Calls Try.prog 50 #[.agg #[.slice na n ncap, ev, pv], dv] w
      (YrsP n (consB n (earl par (loOf n ds) n) (hiOf n ds)) (earl par (loOf n ds) n) (late par (hiOf n ds) n) w) := by
  have HP := Lib.hid hP; clear hP
  have HD := Lib.hid hd; clear hd
  have HN := Lib.hid hn; clear hn
  have HOK := Lib.hid hok; clear hok
  have HDS := Lib.hid hds; clear hds
  have hp0 := (Hp.refl w).box 26 #[.slice na n ncap, ev, pv]
  go_enter Try.func50, Try.ntmps50
  go_wp2_with fail
  refine (bounds_any ev pv dv na n ncap ds _ (HD.out.below hp0.below) hn64 HDS.out).mono ?_
  rintro e w1 ⟨g1, c1, g2, c2, rfl, hq⟩
  have hp1 : Hp w.heap.size w w1 _ := hp0.call hq
  clear hp0 hq
  obtain ⟨bc, _, _, hsz⟩ := hp1.boxAt 2 rfl
  have b0 := bc 0
  have b1 := bc 1
  have b2 := bc 2
  clear bc
  have HI1 := Lib.hid (hp1.ints 0 rfl (by omega))
  have HI2 := Lib.hid (hp1.ints 1 rfl (by omega))
  have HP1 := Lib.hid (HP.out.below hp1.below)
  go_wp2_with fail
  go_region_held3 (fun w' => w'.cell? ⟨w.heap.size, 0, none⟩ = some (.slice na n ncap) ∧ w'.cell? ⟨w.heap.size, 1, none⟩ = some ev ∧ w'.cell? ⟨w.heap.size, 2, none⟩ = some pv)
    (first | go_keep | exact kA | exact kB)
    (first
      | (go_at_call 71; refine (earliest_any _ _ _ _ par (loOf n ds) n _ (HP1.out.below (Quiet.below ⟨1, rfl⟩)) (HI1.out.below (Quiet.below ⟨1, rfl⟩)) HN.out hn1 hn64 (loOf_len n ds) HOK.out).mono ?_; rintro e wA ⟨gA, cA, rfl, hqA⟩; have hcA := hqA.bcell; have kA := And.intro ((hcA w.heap.size 0 hsz).trans b0) (And.intro ((hcA w.heap.size 1 hsz).trans b1) ((hcA w.heap.size 2 hsz).trans b2)))
      | (go_at_call 72; refine (latest_any _ _ _ _ par (hiOf n ds) n _ ((HP1.out.below (Quiet.below ⟨1, rfl⟩)).below hqA.below) ((HI2.out.below (Quiet.below ⟨1, rfl⟩)).below hqA.below) HN.out hn1 hn64 (hiOf_len n ds) HOK.out).mono ?_; rintro e wB ⟨gB, cB, rfl, hqB⟩; have hcB := hqB.bcell; have sA := hqA.below.size; have hszB : w.heap.size < wA.heap.size := Nat.lt_of_lt_of_le hsz sA; have kB := And.intro ((hcB w.heap.size 0 hszB).trans kA.1) (And.intro ((hcB w.heap.size 1 hszB).trans kA.2.1) ((hcB w.heap.size 2 hszB).trans kA.2.2))))
  have hp2 := ((hp1.drew.call hqA).call hqB)
  clear hp1 kA kB hcA hcB b0 b1 b2 HP1 HI1 HI2
  have HE := Lib.hid (earl_len par (loOf n ds) n)
  have HH := Lib.hid (hiOf_len n ds)
  have HLO := Lib.hid (loOf_len n ds)
  clear HD HP HOK HDS HN
  generalize hes : earl par (loOf n ds) n = es at *
  generalize hhs : hiOf n ds = hs at *
  have HES := Lib.hid hes; clear hes
  have HHS := Lib.hid hhs; clear hhs
  go_wp2_with fail
  go_loopw [4, 5, 24] (fun v4 v5 v wr => ∃ k : Nat, k ≤ n ∧ v4 = .slice (some ⟨gA, 0, none⟩) n cA ∧ v5 = .slice (some ⟨gB, 0, none⟩) n cB ∧ v = .int .i64 k ∧ Hid (∀ j, j < k → es.getD j 0 ≤ hs.getD j 0) ∧ Quiet wB wr) (fun _ _ v _ => n - (intOf v).toNat)
  case atStart => exact ⟨0, by omega, rfl, rfl, rfl, fun j hj => absurd hj (by omega), Quiet.refl _⟩
  case round =>
    obtain ⟨k, hk, rfl, rfl, rfl, hle, hq⟩ := hrel
    have hp := hp2.quiet hq
    have HPP := Lib.hid hp2
    clear hp2
    by_cases hlt : k < n
    · obtain ⟨rc1, _, _, _⟩ := hp.rowAt 1 rfl
      obtain ⟨rc3, _, _, _⟩ := hp.rowAt 3 rfl
      have e1 := rc1 k (by omega)
      have e3 := rc3 k (by omega)
      rw [ints_get _ _ (by rw [HE.out, HLO.out]; exact hlt)] at e1
      rw [ints_get _ _ (by rw [HH.out]; exact hlt)] at e3
      clear rc1 rc3
      have HBAD := Lib.hid (consB_false n es hs k hlt)
      generalize hx : es.getD k 0 = x at *
      generalize hy : hs.getD k 0 = y at *
      have HX := Lib.hid hx; clear hx
      have HY := Lib.hid hy; clear hy
      by_cases hxy : y < x
      · go_wp2_with fail
        go_quiet (fail)
        go_wp2_with fail
        go_ret3
        exact .inr ⟨HBAD.out hxy, rfl, (hp.drewN _).none⟩
      · have hxy2 := Int.not_lt.1 hxy
        clear hxy
        go_wp2_with fail
        go_quiet (fail)
        go_wp2_with fail
        go_roundw
        case rel =>
          refine ⟨k + 1, by omega, rfl, rfl, by go_num, fun j hj => ?_, hq.trans ⟨_, rfl⟩⟩
          rcases Nat.lt_or_ge j k with h1 | h1
          · exact hle.out j h1
          · obtain rfl : j = k := by omega
            rw [HX.out, HY.out]; exact hxy2
        case measure => simp [intOf]; omega
    · have hkn : k = n := by omega
      subst hkn
      go_wp2_with fail
      go_ret3
      exact .inl ⟨consB_true _ _ _ hle.out, _, _, _, _, rfl, (hp.sub (L' := [_, _]) (by simp)).swap⟩
end Go.Proofs.Ytpbohmddbfaiiaa
