/-
  dating.check, Earliest and Latest. No statement of the seat is proved here.
-/
import Derived.Test.YtpbohmddbfaiiaaYearsR
import Derived.Test.YtpbohmddbfaiiaaPl37
import Derived.Test.YtpbohmddbfaiiaaDatC
import Derived.Test.YtpbohmddbfaiiaaDatR
namespace Go.Proofs.Ytpbohmddbfaiiaa
open Go.RowKit

theorem dCheck_zero (s : Stem) (ds : List Dt) (h : dCheck s ds = 0) : stCheck s = 0 ∧ ∀ k, (hk : k < ds.length) → ¬ dBad s.names.length ds[k] ∧ ds[k].fr ≤ ds[k].to ∧ ∀ j, (hj : j < k) → ds[j].node ≠ ds[k].node := by
  unfold dCheck at h
  by_cases h0 : stCheck s = 0
  · rw [if_neg (by rw [h0]; simp)] at h
    refine ⟨h0, fun k hk => ?_⟩
    have hz := firstErr_zero _ _ h k hk
    rw [dtAt_eq _ _ _ hk] at hz
    by_cases hb : dBad s.names.length ds[k]
    · rw [if_pos hb] at hz; omega
    · rw [if_neg hb] at hz
      by_cases ho : ds[k].to < ds[k].fr
      · rw [if_pos ho] at hz; omega
      · rw [if_neg ho] at hz
        refine ⟨hb, by omega, fun j hj he => ?_⟩
        have ha : (ds.take k).any (fun e => e.node == ds[k].node) = true := List.any_eq_true.2 ⟨ds[j], List.mem_take_iff_getElem.2 ⟨j, by omega, rfl⟩, by simpa using he⟩
        rw [if_pos ha] at hz; omega
  · rw [if_pos h0] at h; omega
theorem dCheck_nodes (s : Stem) (ds : List Dt) (h : dCheck s ds = 0) : ∀ d ∈ ds, 0 ≤ d.node ∧ d.node < s.names.length := by
  intro d hd
  obtain ⟨k, hk, rfl⟩ := List.getElem_of_mem hd
  have := (dCheck_zero s ds h).2 k hk
  unfold dBad at this
  omega

def eYrs (s : Stem) (ds : List Dt) : List Int := earl s.par (loOf s.names.length ds) s.names.length
def lYrs (s : Stem) (ds : List Dt) : List Int := late s.par (hiOf s.names.length ds) s.names.length
def yErr (s : Stem) (ds : List Dt) : Int := if dCheck s ds ≠ 0 then 1 else if consB s.names.length (eYrs s ds) (lYrs s ds) = true then 0 else 25

theorem eYrs_len (s : Stem) (ds : List Dt) : (eYrs s ds).length = s.names.length := by rw [eYrs, earl_len, loOf_len]
theorem lYrs_len (s : Stem) (ds : List Dt) : (lYrs s ds).length = s.names.length := by rw [lYrs, late_len, hiOf_len]

theorem cons_eq (s : Stem) (ds : List Dt) (h : stCheck s = 0) : consB s.names.length (earl s.par (loOf s.names.length ds) s.names.length) (hiOf s.names.length ds) = consB s.names.length (eYrs s ds) (lYrs s ds) := by
  obtain ⟨_, _, _, hp, _⟩ := stCheck_len s h
  have hok := stCheck_okPar s h
  unfold eYrs lYrs
  rw [← hp]
  exact (consB_late s.par _ _ hok (loOf_len _ _) (hiOf_len _ _)).symm

/-- The three results of check: the years, or nil twice, and the error. -/
def ThP (s : Stem) (ds : List Dt) (w : World) (e : Ending) (w' : World) : Prop :=
  (yErr s ds = 0 ∧ ∃ g1 c1 g2 c2, e = .returned (.tuple #[.slice (some ⟨g1, 0, none⟩) s.names.length c1, .slice (some ⟨g2, 0, none⟩) s.names.length c2, .int .i64 0]) ∧
    Hp w.heap.size w w' [.row 3 1 (.slice (some ⟨g1, 0, none⟩) s.names.length c1) s.names.length (ints (eYrs s ds)), .row 3 1 (.slice (some ⟨g2, 0, none⟩) s.names.length c2) s.names.length (ints (lYrs s ds))]) ∨
  (yErr s ds ≠ 0 ∧ ∃ v1 v2, e = .returned (.tuple #[v1, v2, .int .i64 (yErr s ds)]) ∧ Hp w.heap.size w w' [.row 3 1 v1 0 [], .row 3 1 v2 0 []])

set_option maxRecDepth 100000 in
set_option maxHeartbeats 8000000 in
theorem check37_any (v dv : Value) (s : Stem) (ds : List Dt) (w : World) (h : Stm w v s) (hd : Dats w dv ds) :
    Calls Try.prog 38 #[v, dv] w (ThP s ds w) := by
  have HST := Lib.hid h
  obtain ⟨nv, ev, pv, rfl, hS, hE, hP⟩ := h
  obtain ⟨na, ncap, rfl, hnl, hN⟩ := hS.at
  have HP := Lib.hid hP
  have HD := Lib.hid hd
  clear hS hE hP hN hd
  have hp0 := (Hp.refl w).box 26 #[.slice na s.names.length ncap, ev, pv]
  go_enter Try.func38, Try.ntmps38
  go_wp2_with fail
  refine (dCheck_any _ _ s ds _ (HST.out.below hp0.below) (HD.out.below hp0.below)).mono ?_
  rintro e w1 ⟨rfl, hq1⟩
  have hp1 : Hp w.heap.size w w1 _ := hp0.call hq1
  clear hp0 hq1
  by_cases h0 : dCheck s ds = 0
  case neg =>
    have hc : (dCheck s ds != 0) = true := by rw [bne_iff_ne]; exact h0
    have e : yErr s ds = 1 := by rw [yErr, if_pos h0]
    have HE := Lib.hid e; clear e h0
    go_wp2_with fail
    go_ret3
    exact .inr ⟨by rw [HE.out]; decide, .slice none 0 0, .slice none 0 0, by rw [HE.out]; rfl, (hp1.none.nil _ _).nil _ _⟩
  have hc : (dCheck s ds != 0) = false := by rw [bne_eq_false_iff_eq]; exact h0
  have hst := (dCheck_zero s ds h0).1
  obtain ⟨hn0, hn64, _, hpl, _⟩ := stCheck_len s hst
  have hok := stCheck_okPar s hst
  have HY := Lib.hid (show yErr s ds = if consB s.names.length (eYrs s ds) (lYrs s ds) = true then 0 else 25 by rw [yErr, if_neg (by rw [h0]; simp)])
  have hyears := years_any ev pv dv na s.names.length ncap s.par ds w1 (HP.out.below hp1.below) (HD.out.below hp1.below) hpl (by omega) hn64 hok (dCheck_nodes s ds h0)
  rw [cons_eq s ds hst] at hyears
  have HYEARS := Lib.hid hyears
  clear hyears h0 hst hok hpl
  obtain ⟨bc, _, _, _⟩ := hp1.boxAt 0 rfl
  have b0 := bc 0
  have b1 := bc 1
  have b2 := bc 2
  clear bc
  go_wp2_with fail
  refine HYEARS.out.mono ?_
  rintro e w2 (⟨hb, g1, c1, g2, c2, rfl, hq2⟩ | ⟨hb, rfl, hq2⟩)
  · have hy0 : yErr s ds = 0 := by rw [HY.out, if_pos hb]
    have HY0 := Lib.hid hy0; clear hy0 hb
    have hp2 : Hp w.heap.size w w2 _ := hp1.call hq2
    go_wp2_with fail
    go_ret3
    exact .inl ⟨HY0.out, _, _, _, _, rfl, hp2.sub (by unfold eYrs lYrs; simp)⟩
  · have hy0 : yErr s ds = 25 := by rw [HY.out, if_neg (by rw [hb]; simp)]
    have HY0 := Lib.hid hy0; clear hy0 hb
    have hp2 : Hp w.heap.size w w2 _ := hp1.call hq2
    go_wp2_with fail
    go_ret3
    exact .inr ⟨by rw [HY0.out]; decide, .slice none 0 0, .slice none 0 0, by rw [HY0.out]; rfl, (hp2.none.nil _ _).nil _ _⟩
end Go.Proofs.Ytpbohmddbfaiiaa
