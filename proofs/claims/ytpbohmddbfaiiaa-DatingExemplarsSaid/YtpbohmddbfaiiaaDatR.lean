/-
  apographref37.Check computes the check of dates. No statement of the seat is proved here.
-/
import Derived.Test.YtpbohmddbfaiiaaDat
namespace Go.Proofs.Ytpbohmddbfaiiaa
open Go.RowKit

set_option maxRecDepth 100000 in
set_option maxHeartbeats 4000000 in
theorem rdCheck_any (v dv : Value) (s : Stem) (ds : List Dt) (w : World) (h : Stm w v s) (hd : Dats w dv ds) :
    Calls Try.prog 25 #[v, dv] w fun e w' => e = .returned (.int .i64 (dCheck s ds)) ∧ Hp w.heap.size w w' [] := by
  have HST := Lib.hid h
  obtain ⟨nv, ev, pv, rfl, hS, hE, hP⟩ := h
  obtain ⟨na, ncap, rfl, hnl, hN⟩ := hS.at
  clear hS hE hP hN
  obtain ⟨da, dcap, rfl, hdl, hD⟩ := hd.at
  have HBD := Lib.hid hd.bd
  have HD := Lib.hid hD; clear hD hd
  have hp0 := (Hp.refl w).box 26 #[.slice na s.names.length ncap, ev, pv]
  go_enter Try.func25, Try.ntmps25
  go_wp2_with fail
  refine (rstCheck_any _ s _ (HST.out.below hp0.below)).mono ?_
  rintro e w1 ⟨rfl, hq1⟩
  have hp1 : Hp w.heap.size w w1 _ := hp0.call hq1
  clear hp0
  by_cases h0 : stCheck s = 0
  case neg =>
    have hc : (stCheck s != 0) = true := by rw [bne_iff_ne]; exact h0
    have e : dCheck s ds = 1 := by rw [dCheck, if_pos h0]
    have HE := Lib.hid e; clear e h0
    go_wp2_with fail
    go_ret
    exact ⟨ret_int HE.out.symm, hp1.none⟩
  have hc : (stCheck s != 0) = false := by rw [bne_eq_false_iff_eq]; exact h0
  have HAT := Lib.hid (dCheck_at s ds · h0)
  have HOK := Lib.hid (dCheck_ok s ds h0)
  clear h0
  go_wp2_with fail
  go_loopw [5] (fun i wr => ∃ k : Nat, k ≤ ds.length ∧ i = .int .i64 k ∧ Hid (firstErr (dtAt s.names.length ds) k = 0) ∧
      Hp w.heap.size w wr [.box 26 w.heap.size [.slice na s.names.length ncap, ev, pv]]) (fun i _ => ds.length - (intOf i).toNat)
  case atStart => exact ⟨0, by omega, rfl, rfl, hp1⟩
  case round =>
    clear hp1 hq1
    obtain ⟨k, hk, rfl, hf, hp⟩ := hrel
    by_cases hlt : k < ds.length
    · obtain ⟨b, off, rfl, d0, d1, d2⟩ := HD.out k hlt
      have d0 := (hp.below.cell (World.block_lt_of_cell? w _ d0)).trans d0
      have d1 := (hp.below.cell (World.block_lt_of_cell? w _ d1)).trans d1
      have d2 := (hp.below.cell (World.block_lt_of_cell? w _ d2)).trans d2
      obtain ⟨⟨n0, n1⟩, ⟨f0, f1⟩, ⟨t0, t1⟩⟩ := HBD.out ds[k] (List.getElem_mem hlt)
      obtain ⟨bc, bf, _, _⟩ := hp.boxAt 0 rfl
      have b0 := bc 0
      clear bc bf
      have HDT := Lib.hid (dtAt_eq s.names.length ds k hlt)
      generalize hdd : ds[k] = dd at *
      have HDD := Lib.hid hdd; clear hdd
      obtain ⟨nd, fr, to⟩ := dd
      have hpb := hp.box 43 #[.int .i64 nd, .int .i64 fr, .int .i64 to]
      by_cases hbad : dBad s.names.length ⟨nd, fr, to⟩
      · have HDT2 := Lib.hid (HDT.out.trans (if_pos hbad))
        have HBAD := Lib.hid hbad; clear hbad
        go_wp2_with fail
        all_goals first
          | (exfalso; have hbd := HBAD.out; unfold dBad at hbd; simp only at hbd; omega)
          | (go_ret; exact ⟨ret_int (HAT.out k hlt hf.out 2 HDT2.out (by decide)).symm, hpb.none⟩)
      · have hb2 : 0 ≤ nd ∧ nd < s.names.length ∧ -5000 ≤ fr ∧ fr ≤ 5000 ∧ -5000 ≤ to ∧ to ≤ 5000 := by unfold dBad at hbad; simp only at hbad; omega
        obtain ⟨g0, g1, g2, g3, g4, g5⟩ := hb2
        have HDT2 := Lib.hid (HDT.out.trans (if_neg hbad))
        clear hbad n0 n1 f0 f1 t0 t1
        by_cases hord : to < fr
        · have HDT3 := Lib.hid (HDT2.out.trans (if_pos hord))
          go_wp2_with fail
          go_ret
          exact ⟨ret_int (HAT.out k hlt hf.out 10 HDT3.out (by decide)).symm, hpb.none⟩
        · have HDT3 := Lib.hid (HDT2.out.trans (if_neg hord))
          go_wp2_with fail
          obtain ⟨wo, rfl⟩ : ∃ wo : World, wo = wr := ⟨_, rfl⟩
          go_loopw [7] (fun i wi => ∃ j : Nat, j ≤ k ∧ i = .int .i64 j ∧ Hid (∀ m, m < j → (hm : m < ds.length) → ds[m].node ≠ nd) ∧
              Hp w.heap.size w wi [.box 43 wo.heap.size [.int .i64 nd, .int .i64 fr, .int .i64 to], .box 26 w.heap.size [.slice na s.names.length ncap, ev, pv]]) (fun i _ => k - (intOf i).toNat)
          case atStart => exact ⟨0, by omega, rfl, fun m h1 => absurd h1 (by omega), hpb⟩
          case round =>
            clear hpb hp b0 d0 d1 d2
            obtain ⟨j, hjk, rfl, hno, hp3⟩ := hrel
            obtain ⟨xc, xf, _, _⟩ := hp3.boxAt 0 rfl
            have x0 := xc 0
            clear xc xf
            by_cases hjl : j < k
            · obtain ⟨b', off', hb', e0, _, _⟩ := HD.out j (by omega)
              simp only [Option.some.injEq, Addr.mk.injEq, and_true] at hb'
              obtain ⟨rfl, rfl⟩ := hb'
              have e0 := (hp3.below.cell (World.block_lt_of_cell? w _ e0)).trans e0
              cases he : (ds[j].node == nd) with
              | true =>
                have hs : (ds.take k).any (fun e => e.node == nd) = true := List.any_eq_true.2 ⟨ds[j], List.mem_take_iff_getElem.2 ⟨j, by omega, rfl⟩, he⟩
                have HDT4 := Lib.hid (HDT3.out.trans (if_pos hs)); clear hs
                generalize ds[j].node = ej at *
                go_wp2_with fail
                go_quiet (fail)
                go_wp2_with fail
                go_ret
                exact ⟨ret_int (HAT.out k hlt hf.out 7 HDT4.out (by decide)).symm, (hp3.drewN _).none⟩
              | false =>
                have HNE := Lib.hid (beq_eq_false_iff_ne.1 he)
                go_wp2_with fail
                go_quiet (fail)
                go_wp2_with fail
                go_roundw
                case rel =>
                  refine ⟨j + 1, by omega, by go_num, fun m h1 hm => ?_, hp3.drewN _⟩
                  rcases Nat.lt_or_ge m j with h3 | h3
                  · exact hno.out m h3 hm
                  · obtain rfl : m = j := by omega
                    exact HNE.out
                case measure => simp [intOf]; omega
            · have hs : ¬ ((ds.take k).any (fun e => e.node == nd) = true) := by
                intro h
                obtain ⟨e, he, h2⟩ := List.any_eq_true.1 h
                obtain ⟨m, hm, rfl⟩ := List.mem_take_iff_getElem.1 he
                exact hno.out m (by omega) (by omega) (by simpa using h2)
              have HDT4 := Lib.hid (HDT3.out.trans (if_neg hs)); clear hs
              go_wp2_with fail
              go_roundw
              case rel => exact ⟨k + 1, by omega, by go_num, firstErr_step _ _ hf.out HDT4.out, hp3.drop1⟩
              case measure => simp [intOf]; omega
    · obtain rfl : k = ds.length := by omega
      go_wp2_with fail
      go_ret
      exact ⟨ret_int (HOK.out hf.out).symm, hp.none⟩
end Go.Proofs.Ytpbohmddbfaiiaa
