/-
  stemma.Check computes the check of a stemma. No statement of the seat is proved here.
-/
import Derived.Test.YtmclgfipdgmomaaStem
namespace Go.Proofs.Ytmclgfipdgmomaa
open Go.RowKit

theorem stCheck_at (s : Stem) (k : Nat) (h0 : s.names.length ≠ 0) (h64 : ¬ 64 < s.names.length) (he : s.ext.length = s.names.length) (hp : s.par.length = s.names.length)
    (hk : k < s.names.length) (hf : firstErr (stAt s) k = 0) (e : Int) (hs : stAt s k = e) (hne : e ≠ 0) : stCheck s = e := by
  rw [stCheck, if_neg h0, if_neg h64, if_neg (by omega), firstErr_hit _ k _ hf (by rw [hs]; exact hne) hk, hs]
theorem stCheck_ok (s : Stem) (h0 : s.names.length ≠ 0) (h64 : ¬ 64 < s.names.length) (he : s.ext.length = s.names.length) (hp : s.par.length = s.names.length)
    (hf : firstErr (stAt s) s.names.length = 0) : stCheck s = 0 := by
  rw [stCheck, if_neg h0, if_neg h64, if_neg (by omega), hf]

set_option maxRecDepth 100000 in
set_option maxHeartbeats 4000000 in
theorem stCheck_any (v : Value) (s : Stem) (w : World) (h : Stm w v s) :
    Calls Try.prog 48 #[v] w fun e w' => e = .returned (.int .i64 (stCheck s)) ∧ Hp w.heap.size w w' [] := by
  obtain ⟨nv, ev, pv, rfl, hS, hE, hP⟩ := h
  obtain ⟨na, ncap, rfl, hnl, hN⟩ := hS.at
  obtain ⟨ea, ecap, rfl, hel, hE'⟩ := hE.at
  obtain ⟨pa, pcap, rfl, hpl, hP'⟩ := hP.at
  have hroom := hS.1.room _ _ _ rfl
  have HS := Lib.hid hS; clear hS
  have HN := Lib.hid hN; clear hN
  have HP := Lib.hid hP'; clear hP' hE' hE hP
  have hp0 := (Hp.refl w).box 26 #[.slice na s.names.length ncap, .slice ea s.ext.length ecap, .slice pa s.par.length pcap]
  by_cases h0 : s.names.length = 0
  · have e : stCheck s = 5 := by rw [stCheck, if_pos h0]
    have HE := Lib.hid e; clear e
    have hc : ((s.names.length : Int) == 0) = true := by rw [beq_iff_eq]; omega
    have H0 := Lib.hid h0; clear h0
    go_enter Try.func48, Try.ntmps48
    go_wp2_with fail
    go_ret
    exact ⟨ret_int HE.out.symm, hp0.none⟩
  have hc : ((s.names.length : Int) == 0) = false := by rw [beq_eq_false_iff_ne]; omega
  by_cases h64 : 64 < s.names.length
  · have e : stCheck s = 4 := by rw [stCheck, if_neg h0, if_pos h64]
    have HE := Lib.hid e; clear e
    go_enter Try.func48, Try.ntmps48
    go_wp2_with fail
    go_ret
    exact ⟨ret_int HE.out.symm, hp0.none⟩
  by_cases he : s.ext.length = s.names.length
  case neg =>
    have e : stCheck s = 9 := by rw [stCheck, if_neg h0, if_neg h64, if_pos (.inl he)]
    have HE := Lib.hid e; clear e
    have hc2 : ((s.ext.length : Int) != s.names.length) = true := by rw [bne_iff_ne]; omega
    go_enter Try.func48, Try.ntmps48
    go_wp2_with fail
    go_ret
    exact ⟨ret_int HE.out.symm, hp0.none⟩
  by_cases hpp : s.par.length = s.names.length
  case neg =>
    have e : stCheck s = 9 := by rw [stCheck, if_neg h0, if_neg h64, if_pos (.inr hpp)]
    have HE := Lib.hid e; clear e
    have hc2 : ((s.ext.length : Int) != s.names.length) = false := by rw [bne_eq_false_iff_eq]; omega
    have hc3 : ((s.par.length : Int) != s.names.length) = true := by rw [bne_iff_ne]; omega
    have HH := Lib.hid he; clear he
    go_enter Try.func48, Try.ntmps48
    go_wp2_with fail
    go_ret
    exact ⟨ret_int HE.out.symm, hp0.none⟩
  have hc2 : ((s.ext.length : Int) != s.names.length) = false := by rw [bne_eq_false_iff_eq]; omega
  have hc3 : ((s.par.length : Int) != s.names.length) = false := by rw [bne_eq_false_iff_eq]; omega
  have HAT := Lib.hid (stCheck_at s · h0 h64 he hpp)
  have HOK := Lib.hid (stCheck_ok s h0 h64 he hpp)
  have HHE := Lib.hid he; clear he
  have HHP := Lib.hid hpp; clear hpp
  go_enter Try.func48, Try.ntmps48
  go_wp2_with fail
  go_loopw [32] (fun i wr => ∃ k : Nat, k ≤ s.names.length ∧ i = .int .i64 k ∧ Hid (firstErr (stAt s) k = 0) ∧
      Hp w.heap.size w wr [.box 26 w.heap.size [.slice na s.names.length ncap, .slice ea s.ext.length ecap, .slice pa s.par.length pcap]]) (fun i _ => s.names.length - (intOf i).toNat)
  case atStart => exact ⟨0, by omega, rfl, rfl, hp0⟩
  case round =>
    clear hp0
    obtain ⟨k, hk, rfl, hf, hp⟩ := hrel
    by_cases hlt : k < s.names.length
    · obtain ⟨bc, bf, bb, bl⟩ := hp.boxAt 0 rfl
      have b0 := bc 0
      have b2 := bc 2
      clear bc bf
      obtain ⟨hsz, nb, noff, rfl, hcell⟩ := HN.out k hlt
      have hcell := (hp.below.cell (World.block_lt_of_cell? w _ hcell)).trans hcell
      have hkp : k < s.par.length := by rw [HHP.out]; exact hlt
      obtain ⟨pb, poff, u, rfl, hpc, hpi⟩ := HP.out k hkp
      have hp1 := hp.box 3 #[.int .i64 k]
      have HPC := Lib.hid hpc
      have hpc := (hp1.below.cell (World.block_lt_of_cell? w _ hpc)).trans hpc
      obtain ⟨ra, rcap, rfl, hrl, hr⟩ := hpi.at
      have HPI := Lib.hid hpi; clear hpi
      have HR := Lib.hid hr; clear hr
      have hst : stAt s k = if leafNm s.names[k] = false then 14 else if Lib.containsS (s.names.take k) s.names[k] = true then 7 else if rngB s.par[k] k = true then 2 else if incB s.par[k] = false then 10 else 0 := by
        rw [stAt]; simp [hlt, hkp]
      have HST := Lib.hid hst; clear hst
      generalize hnm : s.names[k] = nm at *
      generalize hpk : s.par[k] = pk at *
      have HX1 := Lib.hid hnm; clear hnm
      have HX2 := Lib.hid hpk; clear hpk
      have HIB := Lib.hid ((hp1.boxAt 0 rfl).1 0)
      go_wp2_with fail
      refine (leafName_any nm _ hsz).mono ?_
      rintro e w1 ⟨rfl, rfl⟩
      cases hb : leafNm nm with
      | false =>
        go_wp2_with fail
        go_ret
        exact ⟨ret_int (HAT.out k hlt hf.out 14 (by rw [HST.out, if_pos hb]) (by decide)).symm, hp1.none⟩
      | true =>
        go_wp2_with fail
        refine (contains_str _ (s.names.take k) nm _ ((HS.out.take k _ hk (by omega)).below hp1.below)).mono ?_
        rintro e w1 ⟨rfl, rfl⟩
        cases hb2 : Lib.containsS (s.names.take k) nm with
        | true =>
          go_wp2_with fail
          go_ret
          exact ⟨ret_int (HAT.out k hlt hf.out 7 (by rw [HST.out, if_neg (by rw [hb]; simp), if_pos hb2]) (by decide)).symm, hp1.none⟩
        | false =>
          have HB := Lib.hid hb; clear hb
          have HB2 := Lib.hid hb2; clear hb2
          go_wp2_with fail
          refine (range_any _ pk k _ _ (HPI.out.below hp1.below) HIB.out).mono ?_
          rintro e w2 ⟨rfl, hq⟩
          have hp2 := hp1.quiet hq
          cases hb3 : rngB pk k with
          | true =>
            go_wp2_with fail
            go_ret
            exact ⟨ret_int (HAT.out k hlt hf.out 2 (by rw [HST.out, if_neg (by rw [HB.out]; simp), if_neg (by rw [HB2.out]; simp), if_pos hb3]) (by decide)).symm, hp2.none⟩
          | false =>
            have HB3 := Lib.hid hb3; clear hb3
            go_wp2_with fail
            obtain ⟨wo, rfl⟩ : ∃ wo : World, wo = wr := ⟨_, rfl⟩
            go_loopw [6] (fun i wi => ∃ j : Nat, 1 ≤ j ∧ i = .int .i64 j ∧ Hid (∀ m, 1 ≤ m → m < j → (hm : m < pk.length) → pk[m - 1]'(by omega) < pk[m]) ∧
                Hp w.heap.size w wi [.box 3 wo.heap.size [.int .i64 k], .box 26 w.heap.size [.slice (some ⟨nb, noff, none⟩) s.names.length ncap, .slice ea s.ext.length ecap, .slice (some ⟨pb, poff, none⟩) s.par.length pcap]]) (fun i _ => pk.length - (intOf i).toNat)
            case atStart => exact ⟨1, by omega, rfl, fun m h1 h2 => absurd h2 (by omega), hp2⟩
            case round =>
              clear hp2 hp1 hp hcell hpc
              obtain ⟨j, hj1, rfl, hinc, hp3⟩ := hrel
              obtain ⟨ic, icf, _, _⟩ := hp3.boxAt 0 rfl
              obtain ⟨bc, bcf, _, _⟩ := hp3.boxAt 1 rfl
              have c0 := ic 0
              have c2 := bc 2
              clear ic icf bc bcf
              have pc := (hp3.below.cell (World.block_lt_of_cell? w _ HPC.out)).trans HPC.out
              by_cases hjl : j < pk.length
              · obtain ⟨rb, roff, rfl, r0⟩ := HR.out j hjl
                obtain ⟨rb', roff', hra, r1⟩ := HR.out (j - 1) (by omega)
                simp only [Option.some.injEq, Addr.mk.injEq, and_true] at hra
                obtain ⟨rfl, rfl⟩ := hra
                have r0 := (hp3.below.cell (World.block_lt_of_cell? w _ r0)).trans r0
                have r1 := (hp3.below.cell (World.block_lt_of_cell? w _ r1)).trans r1
                by_cases hle : pk[j] ≤ pk[j - 1]
                · have hno := incB_not pk j hj1 hjl hle
                  have HNO := Lib.hid hno; clear hno
                  generalize pk[j] = pj at *
                  generalize pk[j - 1] = pj1 at *
                  go_wp2_with fail
                  go_quiet (fail)
                  go_wp2_with fail
                  go_ret
                  exact ⟨ret_int (HAT.out k hlt hf.out 10 (by rw [HST.out, if_neg (by rw [HB.out]; simp), if_neg (by rw [HB2.out]; simp), if_neg (by rw [HB3.out]; simp), if_pos HNO.out]) (by decide)).symm, (hp3.drewN _).none⟩
                · have HLT := Lib.hid (Int.not_le.1 hle)
                  go_wp2_with fail
                  go_quiet (fail)
                  go_wp2_with fail
                  go_roundw
                  case rel =>
                    refine ⟨j + 1, by omega, by go_num, fun m h1 h2 hm => ?_, hp3.drewN _⟩
                    rcases Nat.lt_or_ge m j with h3 | h3
                    · exact hinc.out m h1 h3 hm
                    · obtain rfl : m = j := by omega
                      exact HLT.out
                  case measure => simp [intOf]; omega
              · have hinc2 := incB_of pk (fun m h1 hm => hinc.out m h1 (by omega) hm)
                have HI2 := Lib.hid hinc2; clear hinc2
                go_wp2_with fail
                go_roundw
                case rel =>
                  exact ⟨k + 1, by omega, by go_num, firstErr_step _ _ hf.out (by rw [HST.out, if_neg (by rw [HB.out]; simp), if_neg (by rw [HB2.out]; simp), if_neg (by rw [HB3.out]; simp), if_neg (by rw [HI2.out]; simp)]), hp3.drop1⟩
                case measure => simp [intOf]; omega
    · obtain rfl : k = s.names.length := by omega
      go_wp2_with fail
      go_ret
      exact ⟨ret_int (HOK.out hf.out).symm, hp.none⟩
end Go.Proofs.Ytmclgfipdgmomaa
