/-
  Part 7 of the proof: StemC, StemR, Ext, Lt, De39, Gu. No statement of the seat is proved here.
-/
import Derived.Test.YtdigdmnnjbndlaaGreatDoorMHTx366
namespace Go.Proofs.YtdigdmnnjbndlaaGreatDoor
open Go.RowKit
theorem stCheck_at (s : Stem) (k : Nat) (h0 : s.names.length ≠ 0) (h64 : ¬ 64 < s.names.length) (he : s.ext.length = s.names.length) (hp : s.par.length = s.names.length)
    (hk : k < s.names.length) (hf : firstErr (stAt s) k = 0) (e : Int) (hs : stAt s k = e) (hne : e ≠ 0) : stCheck s = e := by
  rw [stCheck, if_neg h0, if_neg h64, if_neg (by omega), firstErr_hit _ k _ hf (by rw [hs]; exact hne) hk, hs]
theorem stCheck_ok (s : Stem) (h0 : s.names.length ≠ 0) (h64 : ¬ 64 < s.names.length) (he : s.ext.length = s.names.length) (hp : s.par.length = s.names.length)
    (hf : firstErr (stAt s) s.names.length = 0) : stCheck s = 0 := by
  rw [stCheck, if_neg h0, if_neg h64, if_neg (by omega), hf]
set_option maxRecDepth 100000 in
set_option maxHeartbeats 4000000 in
theorem stCheck_any (v : Value) (s : Stem) (w : World) (h : Stm w v s) :
    Calls Tryz.prog 23 #[v] w fun e w' => e = .returned (.int .i64 (stCheck s)) ∧ Hp w.heap.size w w' [] := by
  obtain ⟨nv, ev, pv, rfl, hS, hE, hP⟩ := h
  obtain ⟨na, ncap, rfl, hnl, hN⟩ := hS.at
  obtain ⟨ea, ecap, rfl, hel, hE'⟩ := hE.at
  obtain ⟨pa, pcap, rfl, hpl, hP'⟩ := hP.at
  have hroom := hS.1.room _ _ _ rfl
  have HS := Lib.hid hS; clear hS
  have HN := Lib.hid hN; clear hN
  have HP := Lib.hid hP'; clear hP' hE' hE hP
  have hp0 := (Hp.refl w).box 34 #[.slice na s.names.length ncap, .slice ea s.ext.length ecap, .slice pa s.par.length pcap]
  by_cases h0 : s.names.length = 0
  · have e : stCheck s = 5 := by rw [stCheck, if_pos h0]
    have HE := Lib.hid e; clear e
    have hc : ((s.names.length : Int) == 0) = true := by rw [beq_iff_eq];omega
    have H0 := Lib.hid h0; clear h0
    go_enter Tryz.func23, Tryz.ntmps23
    go_wp2_with fail
    go_ret
    exact ⟨ret_int HE.out.symm, hp0.none⟩
  have hc : ((s.names.length : Int) == 0) = false := by rw [beq_eq_false_iff_ne];omega
  by_cases h64 : 64 < s.names.length
  · have e : stCheck s = 4 := by rw [stCheck, if_neg h0, if_pos h64]
    have HE := Lib.hid e; clear e
    go_enter Tryz.func23, Tryz.ntmps23
    go_wp2_with fail
    go_ret
    exact ⟨ret_int HE.out.symm, hp0.none⟩
  by_cases he : s.ext.length = s.names.length
  case neg =>
    have e : stCheck s = 9 := by rw [stCheck, if_neg h0, if_neg h64, if_pos (.inl he)]
    have HE := Lib.hid e; clear e
    have hc2 : ((s.ext.length : Int) != s.names.length) = true := by rw [bne_iff_ne];omega
    go_enter Tryz.func23, Tryz.ntmps23
    go_wp2_with fail
    go_ret
    exact ⟨ret_int HE.out.symm, hp0.none⟩
  by_cases hpp : s.par.length = s.names.length
  case neg =>
    have e : stCheck s = 9 := by rw [stCheck, if_neg h0, if_neg h64, if_pos (.inr hpp)]
    have HE := Lib.hid e; clear e
    have hc2 : ((s.ext.length : Int) != s.names.length) = false := by rw [bne_eq_false_iff_eq];omega
    have hc3 : ((s.par.length : Int) != s.names.length) = true := by rw [bne_iff_ne];omega
    have HH := Lib.hid he; clear he
    go_enter Tryz.func23, Tryz.ntmps23
    go_wp2_with fail
    go_ret
    exact ⟨ret_int HE.out.symm, hp0.none⟩
  have hc2 : ((s.ext.length : Int) != s.names.length) = false := by rw [bne_eq_false_iff_eq];omega
  have hc3 : ((s.par.length : Int) != s.names.length) = false := by rw [bne_eq_false_iff_eq];omega
  have HAT := Lib.hid (stCheck_at s · h0 h64 he hpp)
  have HOK := Lib.hid (stCheck_ok s h0 h64 he hpp)
  have HHE := Lib.hid he; clear he
  have HHP := Lib.hid hpp; clear hpp
  go_enter Tryz.func23, Tryz.ntmps23
  go_wp2_with fail
  go_loopw [32] (fun i wr => ∃ k : Nat, k ≤ s.names.length ∧ i = .int .i64 k ∧ Hid (firstErr (stAt s) k = 0) ∧
      Hp w.heap.size w wr [.box 34 w.heap.size [.slice na s.names.length ncap, .slice ea s.ext.length ecap, .slice pa s.par.length pcap]]) (fun i _ => s.names.length - (intOf i).toNat)
  case atStart => exact ⟨0, by omega, rfl, rfl, hp0⟩
  case round =>
    clear hp0
    obtain ⟨k, hk, rfl, hf, hp⟩ := hrel
    by_cases hlt : k < s.names.length
    · obtain ⟨bc, bf, bb, bl⟩ := hp.boxAt 0 rfl
      have b0 := bc 0
      have b2 := bc 2
      clear bc bf
      obtain ⟨hsz, nb, noff, rfl, hcell⟩ := HN.out k hlt
      have hcell := (hp.below.cell (World.block_lt_of_cell? w _ hcell)).trans hcell
      have hkp : k < s.par.length := by rw [HHP.out]; exact hlt
      obtain ⟨pb, poff, u, rfl, hpc, hpi⟩ := HP.out k hkp
      have hp1 := hp.box 3 #[.int .i64 k]
      have HPC := Lib.hid hpc
      have hpc := (hp1.below.cell (World.block_lt_of_cell? w _ hpc)).trans hpc
      obtain ⟨ra, rcap, rfl, hrl, hr⟩ := hpi.at
      have HPI := Lib.hid hpi; clear hpi
      have HR := Lib.hid hr; clear hr
      have hst : stAt s k = if leafNm s.names[k] = false then 14 else if Lib.containsS (s.names.take k) s.names[k] = true then 7 else if rngB s.par[k] k = true then 2 else if incB s.par[k] = false then 10 else 0 := by
        rw [stAt]; simp [hlt, hkp]
      have HST := Lib.hid hst; clear hst
      generalize hnm : s.names[k] = nm at *
      generalize hpk : s.par[k] = pk at *
      have HX1 := Lib.hid hnm; clear hnm
      have HX2 := Lib.hid hpk; clear hpk
      have HIB := Lib.hid ((hp1.boxAt 0 rfl).1 0)
      go_wp2_with fail
      refine (leafName_any nm _ hsz).mono ?_
      rintro e w1 ⟨rfl, rfl⟩
      cases hb : leafNm nm with
      | false =>
        go_wp2_with fail
        go_ret
        exact ⟨ret_int (HAT.out k hlt hf.out 14 (by rw [HST.out, if_pos hb]) (by decide)).symm, hp1.none⟩
      | true =>
        go_wp2_with fail
        refine (contains_str _ (s.names.take k) nm _ ((HS.out.take k _ hk (by omega)).below hp1.below)).mono ?_
        rintro e w1 ⟨rfl, rfl⟩
        cases hb2 : Lib.containsS (s.names.take k) nm with
        | true =>
          go_wp2_with fail
          go_ret
          exact ⟨ret_int (HAT.out k hlt hf.out 7 (by rw [HST.out, if_neg (by rw [hb]; simp), if_pos hb2]) (by decide)).symm, hp1.none⟩
        | false =>
          have HB := Lib.hid hb; clear hb
          have HB2 := Lib.hid hb2; clear hb2
          go_wp2_with fail
          refine (range_any _ pk k _ _ (HPI.out.below hp1.below) HIB.out).mono ?_
          rintro e w2 ⟨rfl, hq⟩
          have hp2 := hp1.quiet hq
          cases hb3 : rngB pk k with
          | true =>
            go_wp2_with fail
            go_ret
            exact ⟨ret_int (HAT.out k hlt hf.out 2 (by rw [HST.out, if_neg (by rw [HB.out]; simp), if_neg (by rw [HB2.out]; simp), if_pos hb3]) (by decide)).symm, hp2.none⟩
          | false =>
            have HB3 := Lib.hid hb3; clear hb3
            go_wp2_with fail
            obtain ⟨wo, rfl⟩ : ∃ wo : World, wo = wr := ⟨_, rfl⟩
            go_loopw [6] (fun i wi => ∃ j : Nat, 1 ≤ j ∧ i = .int .i64 j ∧ Hid (∀ m, 1 ≤ m → m < j → (hm : m < pk.length) → pk[m - 1]'(by omega) < pk[m]) ∧
                Hp w.heap.size w wi [.box 3 wo.heap.size [.int .i64 k], .box 34 w.heap.size [.slice (some ⟨nb, noff, none⟩) s.names.length ncap, .slice ea s.ext.length ecap, .slice (some ⟨pb, poff, none⟩) s.par.length pcap]]) (fun i _ => pk.length - (intOf i).toNat)
            case atStart => exact ⟨1, by omega, rfl, fun m h1 h2 => absurd h2 (by omega), hp2⟩
            case round =>
              clear hp2 hp1 hp hcell hpc
              obtain ⟨j, hj1, rfl, hinc, hp3⟩ := hrel
              obtain ⟨ic, icf, _, _⟩ := hp3.boxAt 0 rfl
              obtain ⟨bc, bcf, _, _⟩ := hp3.boxAt 1 rfl
              have c0 := ic 0
              have c2 := bc 2
              clear ic icf bc bcf
              have pc := (hp3.below.cell (World.block_lt_of_cell? w _ HPC.out)).trans HPC.out
              by_cases hjl : j < pk.length
              · obtain ⟨rb, roff, rfl, r0⟩ := HR.out j hjl
                obtain ⟨rb', roff', hra, r1⟩ := HR.out (j - 1) (by omega)
                simp only [Option.some.injEq, Addr.mk.injEq, and_true] at hra
                obtain ⟨rfl, rfl⟩ := hra
                have r0 := (hp3.below.cell (World.block_lt_of_cell? w _ r0)).trans r0
                have r1 := (hp3.below.cell (World.block_lt_of_cell? w _ r1)).trans r1
                by_cases hle : pk[j] ≤ pk[j - 1]
                · have hno := incB_not pk j hj1 hjl hle
                  have HNO := Lib.hid hno; clear hno
                  generalize pk[j] = pj at *
                  generalize pk[j - 1] = pj1 at *
                  go_wp2_with fail
                  go_quiet (fail)
                  go_wp2_with fail
                  go_ret
                  exact ⟨ret_int (HAT.out k hlt hf.out 10 (by rw [HST.out, if_neg (by rw [HB.out]; simp), if_neg (by rw [HB2.out]; simp), if_neg (by rw [HB3.out]; simp), if_pos HNO.out]) (by decide)).symm, (hp3.drewN _).none⟩
                · have HLT := Lib.hid (Int.not_le.1 hle)
                  go_wp2_with fail
                  go_quiet (fail)
                  go_wp2_with fail
                  go_roundw
                  case rel =>
                    refine ⟨j + 1, by omega, by go_num, fun m h1 h2 hm => ?_, hp3.drewN _⟩
                    rcases Nat.lt_or_ge m j with h3 | h3
                    · exact hinc.out m h1 h3 hm
                    · obtain rfl : m = j := by omega
                      exact HLT.out
                  case measure => simp [intOf];omega
              · have hinc2 := incB_of pk (fun m h1 hm => hinc.out m h1 (by omega) hm)
                have HI2 := Lib.hid hinc2; clear hinc2
                go_wp2_with fail
                go_roundw
                case rel =>
                  exact ⟨k + 1, by omega, by go_num, firstErr_step _ _ hf.out (by rw [HST.out, if_neg (by rw [HB.out]; simp), if_neg (by rw [HB2.out]; simp), if_neg (by rw [HB3.out]; simp), if_neg (by rw [HI2.out]; simp)]), hp3.drop1⟩
                case measure => simp [intOf];omega
    · obtain rfl : k = s.names.length := by omega
      go_wp2_with fail
      go_ret
      exact ⟨ret_int (HOK.out hf.out).symm, hp.none⟩
end Go.Proofs.YtdigdmnnjbndlaaGreatDoor
namespace Go.Proofs.YtdigdmnnjbndlaaGreatDoor
open Go.RowKit
theorem least {p : Nat → Prop} : ∀ j, p j → ∃ i, i ≤ j ∧ p i ∧ ∀ m, m < i → ¬ p m := by
  intro j
  induction j using Nat.strongRecOn with
  | ind j ih =>
    intro hj
    by_cases h : ∃ m, m < j ∧ p m
    · obtain ⟨m, hm, hpm⟩ := h
      obtain ⟨i, hi, h1, h2⟩ := ih m hm hpm
      exact ⟨i, by omega, h1, h2⟩
    · exact ⟨j, Nat.le_refl _, hj, fun m hm hpm => h ⟨m, hm, hpm⟩⟩
theorem place_ne (xs : List ByteArray) (k : Nat) (hk : k < xs.length) : (Lib.idxOfS xs xs[k] != (k : Int)) = Lib.containsS (xs.take k) xs[k] := by
  rw [Bool.eq_iff_iff, bne_iff_ne, Lib.containsS_iff]
  have hg : xs.getD k ByteArray.empty = xs[k] := by simp [hk]
  constructor
  · intro h
    by_cases hm : xs[k] ∈ xs.take k
    · exact hm
    · exfalso
      apply h
      have := Lib.idxOfS_hit xs xs.length k xs[k] hk (Nat.le_refl _) hg (fun j hj e => hm ?_)
      · rw [List.take_length] at this; exact this
      · have hj2 : j < xs.length := by omega
        rw [show xs.getD j ByteArray.empty = xs[j] from by simp [hj2]] at e
        rw [← e]
        exact List.mem_take_iff_getElem.2 ⟨j, by omega, rfl⟩
  · intro hm h
    obtain ⟨j, hj, e⟩ := List.mem_take_iff_getElem.1 hm
    -- the first place is at most j
    have hjk : j < k := by omega
    have hfirst : ∃ i, i ≤ j ∧ xs.getD i ByteArray.empty = xs[k] ∧ ∀ m, m < i → xs.getD m ByteArray.empty ≠ xs[k] := by
      exact least (p := fun i => xs.getD i ByteArray.empty = xs[k]) j (by rw [show xs.getD j ByteArray.empty = xs[j]'(by omega) from by simp [show j < xs.length by omega]]; exact e)
    obtain ⟨i, hi, h1, h2⟩ := hfirst
    have := Lib.idxOfS_hit xs xs.length i xs[k] (by omega) (Nat.le_refl _) h1 h2
    rw [List.take_length] at this
    omega
set_option maxRecDepth 100000 in
set_option maxHeartbeats 4000000 in
theorem rstCheck_any (v : Value) (s : Stem) (w : World) (h : Stm w v s) :
    Calls Tryz.prog 12 #[v] w fun e w' => e = .returned (.int .i64 (stCheck s)) ∧ Hp w.heap.size w w' [] := by
  obtain ⟨nv, ev, pv, rfl, hS, hE, hP⟩ := h
  obtain ⟨na, ncap, rfl, hnl, hN⟩ := hS.at
  obtain ⟨ea, ecap, rfl, hel, hE'⟩ := hE.at
  obtain ⟨pa, pcap, rfl, hpl, hP'⟩ := hP.at
  have HS := Lib.hid hS; clear hS
  have HN := Lib.hid hN; clear hN
  have HP := Lib.hid hP'; clear hP' hE' hE hP
  have hp0 := (Hp.refl w).box 34 #[.slice na s.names.length ncap, .slice ea s.ext.length ecap, .slice pa s.par.length pcap]
  by_cases h0 : s.names.length = 0
  · have e : stCheck s = 5 := by rw [stCheck, if_pos h0]
    have HE := Lib.hid e; clear e
    have hc : ((s.names.length : Int) == 0) = true := by rw [beq_iff_eq];omega
    have H0 := Lib.hid h0; clear h0
    go_enter Tryz.func12, Tryz.ntmps12
    go_wp2_with fail
    go_ret
    exact ⟨ret_int HE.out.symm, hp0.none⟩
  have hc : ((s.names.length : Int) == 0) = false := by rw [beq_eq_false_iff_ne];omega
  by_cases h64 : 64 < s.names.length
  · have e : stCheck s = 4 := by rw [stCheck, if_neg h0, if_pos h64]
    have HE := Lib.hid e; clear e
    go_enter Tryz.func12, Tryz.ntmps12
    go_wp2_with fail
    go_ret
    exact ⟨ret_int HE.out.symm, hp0.none⟩
  by_cases he : s.ext.length = s.names.length
  case neg =>
    have e : stCheck s = 9 := by rw [stCheck, if_neg h0, if_neg h64, if_pos (.inl he)]
    have HE := Lib.hid e; clear e
    have hc2 : ((s.ext.length : Int) != s.names.length) = true := by rw [bne_iff_ne];omega
    go_enter Tryz.func12, Tryz.ntmps12
    go_wp2_with fail
    go_ret
    exact ⟨ret_int HE.out.symm, hp0.none⟩
  by_cases hpp : s.par.length = s.names.length
  case neg =>
    have e : stCheck s = 9 := by rw [stCheck, if_neg h0, if_neg h64, if_pos (.inr hpp)]
    have HE := Lib.hid e; clear e
    have hc2 : ((s.ext.length : Int) != s.names.length) = false := by rw [bne_eq_false_iff_eq];omega
    have hc3 : ((s.par.length : Int) != s.names.length) = true := by rw [bne_iff_ne];omega
    have HH := Lib.hid he; clear he
    go_enter Tryz.func12, Tryz.ntmps12
    go_wp2_with fail
    go_ret
    exact ⟨ret_int HE.out.symm, hp0.none⟩
  have hc2 : ((s.ext.length : Int) != s.names.length) = false := by rw [bne_eq_false_iff_eq];omega
  have hc3 : ((s.par.length : Int) != s.names.length) = false := by rw [bne_eq_false_iff_eq];omega
  have HAT := Lib.hid (stCheck_at s · h0 h64 he hpp)
  have HOK := Lib.hid (stCheck_ok s h0 h64 he hpp)
  have HHE := Lib.hid he; clear he
  have HHP := Lib.hid hpp; clear hpp
  go_enter Tryz.func12, Tryz.ntmps12
  go_wp2_with fail
  go_loopw [4] (fun i wr => ∃ k : Nat, k ≤ s.names.length ∧ i = .int .i64 k ∧ Hid (firstErr (stAt s) k = 0) ∧
      Hp w.heap.size w wr [.box 34 w.heap.size [.slice na s.names.length ncap, .slice ea s.ext.length ecap, .slice pa s.par.length pcap]]) (fun i _ => s.names.length - (intOf i).toNat)
  case atStart => exact ⟨0, by omega, rfl, rfl, hp0⟩
  case round =>
    clear hp0
    obtain ⟨k, hk, rfl, hf, hp⟩ := hrel
    by_cases hlt : k < s.names.length
    · obtain ⟨bc, bf, bb, bl⟩ := hp.boxAt 0 rfl
      have b0 := bc 0
      have b2 := bc 2
      clear bc bf
      obtain ⟨hsz, nb, noff, rfl, hcell⟩ := HN.out k hlt
      have HNC := Lib.hid hcell
      have hcell := (hp.below.cell (World.block_lt_of_cell? w _ hcell)).trans hcell
      have hkp : k < s.par.length := by rw [HHP.out]; exact hlt
      obtain ⟨pb, poff, u, rfl, hpc, hpi⟩ := HP.out k hkp
      have HPC := Lib.hid hpc; clear hpc
      obtain ⟨ra, rcap, rfl, hrl, hr⟩ := hpi.at
      have HPI := Lib.hid hpi; clear hpi
      have HR := Lib.hid hr; clear hr
      have hst : stAt s k = if leafNm s.names[k] = false then 14 else if Lib.containsS (s.names.take k) s.names[k] = true then 7 else if rngB s.par[k] k = true then 2 else if incB s.par[k] = false then 10 else 0 := by
        rw [stAt]; simp [hlt, hkp]
      have HST := Lib.hid hst; clear hst
      have HPL := Lib.hid (place_ne s.names k hlt)
      generalize hnm : s.names[k] = nm at *
      generalize hpk : s.par[k] = pk at *
      have HX1 := Lib.hid hnm; clear hnm
      have HX2 := Lib.hid hpk; clear hpk
      go_wp2_with fail
      refine (named_any nm _ hsz).mono ?_
      rintro e w1 ⟨rfl, hq1⟩
      have hp1 : Hp w.heap.size w w1 _ := hp.call hq1
      clear hp hcell b0 b2
      cases hb : leafNm nm with
      | false =>
        go_wp2_with fail
        go_ret
        exact ⟨ret_int (HAT.out k hlt hf.out 14 (by rw [HST.out, if_pos hb]) (by decide)).symm, hp1.none⟩
      | true =>
        have HB := Lib.hid hb; clear hb
        obtain ⟨bc, bf, _, _⟩ := hp1.boxAt 0 rfl
        have b0 := bc 0
        have b2 := bc 2
        clear bc bf
        have hcell := (hp1.below.cell (World.block_lt_of_cell? w _ HNC.out)).trans HNC.out
        have hpc := (hp1.below.cell (World.block_lt_of_cell? w _ HPC.out)).trans HPC.out
        have hS1 := HS.out.below hp1.below
        have HS1 := Lib.hid hS1; clear hS1
        cases hb2 : Lib.containsS (s.names.take k) nm with
        | true =>
          have hpl' : (Lib.idxOfS s.names nm != (k : Int)) = true := HPL.out.trans hb2
          have HB2 := Lib.hid hb2; clear hb2
          go_wp2_with fail
          go_quiet ((go_at_call 49; exact Calls.quiet_of_same ((place_any _ _ _ _ (HS1.out.below (Quiet.below ⟨_, rfl⟩))).mono fun e w' ⟨h1, h2⟩ => ⟨h1, h2.symm⟩)))
          go_wp2_with fail
          go_ret
          exact ⟨ret_int (HAT.out k hlt hf.out 7 (by rw [HST.out, if_neg (by rw [HB.out]; simp), if_pos HB2.out]) (by decide)).symm, (hp1.drewN _).none⟩
        | false =>
          have hpl' : (Lib.idxOfS s.names nm != (k : Int)) = false := HPL.out.trans hb2
          have HB2 := Lib.hid hb2; clear hb2
          go_wp2_with fail
          go_quiet ((go_at_call 49; exact Calls.quiet_of_same ((place_any _ _ _ _ (HS1.out.below (Quiet.below ⟨_, rfl⟩))).mono fun e w' ⟨h1, h2⟩ => ⟨h1, h2.symm⟩)))
          go_wp2_with fail
          obtain ⟨wo, rfl⟩ : ∃ wo : World, wo = wr := ⟨_, rfl⟩
          go_loopw [5] (fun i wi => ∃ j : Nat, j ≤ pk.length ∧ i = .int .i64 j ∧ Hid (∀ m, m < j → (hm : m < pk.length) → (decide (pk[m] < 0) || decide ((k : Int) ≤ pk[m])) = false) ∧
              Hp w.heap.size w wi [.box 34 w.heap.size [.slice (some ⟨nb, noff, none⟩) s.names.length ncap, .slice ea s.ext.length ecap, .slice (some ⟨pb, poff, none⟩) s.par.length pcap]]) (fun i _ => pk.length - (intOf i).toNat)
          case atStart => exact ⟨0, by omega, rfl, fun m h1 => absurd h1 (by omega), hp1.drewN _⟩
          case round =>
            clear hp1 hcell hpc b0 b2
            obtain ⟨j, hjn, rfl, hno, hp3⟩ := hrel
            obtain ⟨bc, bcf, _, _⟩ := hp3.boxAt 0 rfl
            have c2 := bc 2
            clear bc bcf
            have pc := (hp3.below.cell (World.block_lt_of_cell? w _ HPC.out)).trans HPC.out
            by_cases hjl : j < pk.length
            · obtain ⟨rb, roff, rfl, r0⟩ := HR.out j hjl
              have r0 := (hp3.below.cell (World.block_lt_of_cell? w _ r0)).trans r0
              cases hbad : (decide (pk[j] < 0) || decide ((k : Int) ≤ pk[j])) with
              | true =>
                have hany : rngB pk k = true := List.any_eq_true.2 ⟨pk[j], List.getElem_mem hjl, hbad⟩
                have HANY := Lib.hid hany; clear hany
                generalize pk[j] = pj at *
                by_cases h1 : pj < 0
                · go_wp2_with fail
                  go_ret
                  exact ⟨ret_int (HAT.out k hlt hf.out 2 (by rw [HST.out, if_neg (by rw [HB.out]; simp), if_neg (by rw [HB2.out]; simp), if_pos HANY.out]) (by decide)).symm, hp3.none⟩
                · have h2 : (k : Int) ≤ pj := by simpa [h1] using hbad
                  clear hbad
                  go_wp2_with fail
                  go_ret
                  exact ⟨ret_int (HAT.out k hlt hf.out 2 (by rw [HST.out, if_neg (by rw [HB.out]; simp), if_neg (by rw [HB2.out]; simp), if_pos HANY.out]) (by decide)).symm, hp3.none⟩
              | false =>
                have HBAD := Lib.hid hbad
                have h12 : ¬ pk[j] < 0 ∧ ¬ (k : Int) ≤ pk[j] := by simpa using hbad
                obtain ⟨h1, h2⟩ := h12
                clear hbad
                go_wp2_with fail
                go_roundw
                case rel =>
                  refine ⟨j + 1, by omega, by go_num, fun m h1 hm => ?_, hp3⟩
                  rcases Nat.lt_or_ge m j with h3 | h3
                  · exact hno.out m h3 hm
                  · obtain rfl : m = j := by omega
                    exact HBAD.out
                case measure => simp [intOf];omega
            · have hb3 : rngB pk k = false := by
                rw [rngB, List.any_eq_false]
                intro x hx
                obtain ⟨m, hm, rfl⟩ := List.getElem_of_mem hx
                rw [hno.out m (by omega) hm]; simp
              have HB3 := Lib.hid hb3; clear hb3
              go_wp2_with fail
              go_loopw [6] (fun i wi => ∃ j : Nat, 1 ≤ j ∧ i = .int .i64 j ∧ Hid (∀ m, 1 ≤ m → m < j → (hm : m < pk.length) → pk[m - 1]'(by omega) < pk[m]) ∧
                  Hp w.heap.size w wi [.box 34 w.heap.size [.slice (some ⟨nb, noff, none⟩) s.names.length ncap, .slice ea s.ext.length ecap, .slice (some ⟨pb, poff, none⟩) s.par.length pcap]]) (fun i _ => pk.length - (intOf i).toNat)
              case atStart => exact ⟨1, by omega, rfl, fun m h1 h2 => absurd h2 (by omega), hp3⟩
              case round =>
                clear hp3 c2 pc
                obtain ⟨j, hj1, rfl, hinc, hp3⟩ := hrel
                obtain ⟨bc, bcf, _, _⟩ := hp3.boxAt 0 rfl
                have c2 := bc 2
                clear bc bcf
                have pc := (hp3.below.cell (World.block_lt_of_cell? w _ HPC.out)).trans HPC.out
                by_cases hjl : j < pk.length
                · obtain ⟨rb, roff, rfl, r0⟩ := HR.out j hjl
                  obtain ⟨rb', roff', hra, r1⟩ := HR.out (j - 1) (by omega)
                  simp only [Option.some.injEq, Addr.mk.injEq, and_true] at hra
                  obtain ⟨rfl, rfl⟩ := hra
                  have r0 := (hp3.below.cell (World.block_lt_of_cell? w _ r0)).trans r0
                  have r1 := (hp3.below.cell (World.block_lt_of_cell? w _ r1)).trans r1
                  by_cases hle : pk[j] ≤ pk[j - 1]
                  · have hno := incB_not pk j hj1 hjl hle
                    have HNO := Lib.hid hno; clear hno
                    generalize pk[j] = pj at *
                    generalize pk[j - 1] = pj1 at *
                    go_wp2_with fail
                    go_quiet (fail)
                    go_wp2_with fail
                    go_ret
                    exact ⟨ret_int (HAT.out k hlt hf.out 10 (by rw [HST.out, if_neg (by rw [HB.out]; simp), if_neg (by rw [HB2.out]; simp), if_neg (by rw [HB3.out]; simp), if_pos HNO.out]) (by decide)).symm, (hp3.drewN _).none⟩
                  · have HLT := Lib.hid (Int.not_le.1 hle)
                    go_wp2_with fail
                    go_quiet (fail)
                    go_wp2_with fail
                    go_roundw
                    case rel =>
                      refine ⟨j + 1, by omega, by go_num, fun m h1 h2 hm => ?_, hp3.drewN _⟩
                      rcases Nat.lt_or_ge m j with h3 | h3
                      · exact hinc.out m h1 h3 hm
                      · obtain rfl : m = j := by omega
                        exact HLT.out
                    case measure => simp [intOf];omega
                · have hinc2 := incB_of pk (fun m h1 hm => hinc.out m h1 (by omega) hm)
                  have HI2 := Lib.hid hinc2; clear hinc2
                  go_wp2_with fail
                  go_roundw
                  case rel =>
                    exact ⟨k + 1, by omega, by go_num, firstErr_step _ _ hf.out (by rw [HST.out, if_neg (by rw [HB.out]; simp), if_neg (by rw [HB2.out]; simp), if_neg (by rw [HB3.out]; simp), if_neg (by rw [HI2.out]; simp)]), hp3⟩
                  case measure => simp [intOf];omega
    · obtain rfl : k = s.names.length := by omega
      go_wp2_with fail
      go_ret
      exact ⟨ret_int (HOK.out hf.out).symm, hp.none⟩
end Go.Proofs.YtdigdmnnjbndlaaGreatDoor
namespace Go.Proofs.YtdigdmnnjbndlaaGreatDoor
open Go.RowKit
set_option maxRecDepth 100000 in
set_option maxHeartbeats 4000000 in
theorem stCheck_sat (v : Value) (s : Stem) (w : World) (h : Stm w v s) : SatV Tryz.prog 23 [v] w (.int .i64 (stCheck s)) :=
  Sat.lib ⟨_, _, Tryz.func23, by kernel_rfl, rfl⟩ fun w1 hb => (stCheck_any v s w1 (h.below hb)).mono fun e w' ⟨h1, h2⟩ => ⟨_, [], h1, h2, rfl, rfl⟩
set_option maxRecDepth 100000 in
set_option maxHeartbeats 4000000 in
theorem rstCheck_sat (v : Value) (s : Stem) (w : World) (h : Stm w v s) : SatV Tryz.prog 12 [v] w (.int .i64 (stCheck s)) :=
  Sat.lib ⟨_, _, Tryz.func12, by kernel_rfl, rfl⟩ fun w1 hb => (rstCheck_any v s w1 (h.below hb)).mono fun e w' ⟨h1, h2⟩ => ⟨_, [], h1, h2, rfl, rfl⟩
def chkI (s : Stem) (i : Int) : Int := if stCheck s ≠ 0 then 1 else if i < 0 ∨ (s.names.length : Int) ≤ i then 6 else 0
set_option maxRecDepth 100000 in
set_option maxHeartbeats 4000000 in
theorem chk36_sat (v : Value) (s : Stem) (i : Int) (w : World) (h : Stm w v s) : SatV Tryz.prog 96 [v, .int .i64 i] w (.int .i64 (chkI s i)) := by
  have hst := h
  obtain ⟨nv, ev, pv, rfl, hS, _, hP⟩ := h
  have hnv := hS.sl
  refine SatL.of 19 [4] Tryz.func96 (by kernel_rfl) (by kernel_rfl) rfl rfl rfl rfl ?_
  repeat' (first|(apply OK_seq)|(apply thenQ_n)|(apply OK_region)|(apply OKx_gc 23;exact rfl; refine OKx_callV (f := 23) rfl rfl rfl (fun w hp => stCheck_sat _ s w (hst.below hp.below)) ?_)|(apply OKx_nilK)|(apply OK_block)|(apply blockQ_n)|(apply blockQ_s)|(apply thenQ_e)|(apply blockQ_e;exact rfl)|(apply thenQ_r)|(apply blockQ_r)|(apply OK_condT;exact rfl)|(apply OK_condF;exact rfl)|(apply OK_skip)|(apply OK_exit)|(apply OK_ret)|(apply OKx_move;(conv=>lhs;whnf)<;>exact rfl)|(apply OKx_assign;(conv=>lhs;whnf)<;>exact rfl)|(apply OKx_ldB;exact rfl;(first | exact at0|exact at1|exact at2|exact at3|exact at4|exact at5|exact at6|exact at7);exact rfl)|(apply OKx_ldR;(conv=>lhs;whnf)<;>exact rfl;(with_reducible assumption))|(apply OKx_len;exact rfl)|(apply OKx_lenR;(conv=>lhs;whnf)<;>exact rfl;(with_reducible assumption))|(apply OKx_lenR2;(conv=>lhs;whnf)<;>exact rfl;(with_reducible assumption))|(apply OKx_lenO;(conv=>lhs;whnf)<;>exact rfl;(first | exact at0|exact at1|exact at2|exact at3|exact at4|exact at5|exact at6|exact at7))|(apply OKx_lss;exact rfl;exact rfl;all_goals (intro _; try (exfalso;omega)))|(apply OKx_geq;exact rfl;exact rfl;all_goals (intro _; try (exfalso;omega)))|(apply OKx_neq;exact rfl;exact rfl;all_goals (intro _; try (exfalso;omega)))|(apply OKx_fldO;exact rfl;exact rfl)|(apply OKx_fldR;(conv=>lhs;whnf)<;>exact rfl;(with_reducible assumption); decide;intro _ _)|(apply OKx_pickT;exact rfl;(conv=>lhs;whnf)<;>exact rfl)|(apply OKx_pickF;exact rfl;(conv=>lhs;whnf)<;>exact rfl)|(apply OKx_guardT;exact rfl;exact rfl)|(apply OKx_guardF;exact rfl;exact rfl)|(apply OKx_guardU;exact rfl;exact rfl)|(apply OKx_boxA;exact rfl;intro _)|(apply OKx_ldBA;exact rfl;(first | exact at0|exact at1|exact at2|exact at3|exact at4|exact at5|exact at6|exact at7);exact rfl)|(apply OKx_ldRA;(conv=>lhs;whnf)<;>exact rfl;(with_reducible assumption)))
  all_goals
    refine bodyQ_r1 (by ((conv=>lhs;whnf)<;>exact rfl)) ?_
    exact ⟨_, Ent.nil, int_eq (by unfold chkI; split <;> (try split) <;> omega), rfl⟩
def extE (s : Stem) (c p : Int) : Int :=
  if stCheck s ≠ 0 then 1 else if c < 0 ∨ (s.names.length : Int) ≤ c ∨ p < 0 ∨ (s.names.length : Int) ≤ p then 6 else if c ≤ p then 10 else if hasI (s.par.getD c.toNat []) p = true then 7 else 0
def extP (s : Stem) (c p : Int) : List Int := srtK (p :: s.par.getD c.toNat []) 64
def extS (s : Stem) (c p : Int) : Stem := ⟨s.names, s.ext, s.par.set c.toNat (extP s c p)⟩
def ExtR (s : Stem) (c p : Int) (w0 : World) (u : Value) (L : List Res) : Prop :=
  (extE s c p ≠ 0 ∧ u = .tuple #[.agg #[.slice none 0 0, .slice none 0 0, .slice none 0 0], .int .i64 (extE s c p)] ∧ L = []) ∨
  (extE s c p = 0 ∧ ∃ na nc ea ec pa pc, u = .tuple #[.agg #[.slice na s.names.length nc, .slice ea s.ext.length ec, .slice pa s.par.length pc], .int .i64 0] ∧ ∀ w, Hp w0.heap.size w0 w L → Stm w (.agg #[.slice na s.names.length nc, .slice ea s.ext.length ec, .slice pa s.par.length pc]) (extS s c p))
theorem chkI_zero {s : Stem} {i : Int} (h : chkI s i = 0) : stCheck s = 0 ∧ 0 ≤ i ∧ i < s.names.length := by
  unfold chkI at h
  split at h
  · omega
  · split at h
    · omega
    · omega
end Go.Proofs.YtdigdmnnjbndlaaGreatDoor
namespace Go.Proofs.YtdigdmnnjbndlaaGreatDoor
open Go.RowKit
section
variable {P : Program} {n : Nat} {w0 : World} {K : Fm → List Res → Prop} {F : Fm} {L : List Res} {m : Md} {Lw : List Res} {ops : Array Oper} {rest : List Oper}
  {d : Option Nat} {ty : TypeId} {pos : String} {aft : Array Edge}
theorem max2_run {k : IntKind} {a b : Int} {w : World} : (Builtin.max2 (.int k a) (.int k b)).run P w = .ok (.int k (max a b)) w := by
  have e : (if b > a then b else a) = max a b := by split <;> omega
  simp [Builtin.max2, e]
theorem OKx_max5 {x1 x2 x3 x4 x5 : Operand} {tt : Array TypeId} {k : IntKind} {a b c e f r : Int} (h1 : rv n F x1 = .int k a) (h2 : rv n F x2 = .int k b) (h3 : rv n F x3 = .int k c) (h4 : rv n F x4 = .int k e) (h5 : rv n F x5 = .int k f) (hr : max (max (max (max a b) c) e) f = r)
    (kk : OKx P n w0 m ops K rest (updo F d (.int k r)) L) : OKx P n w0 m ops K (⟨d, .call { callee := .builtin .max, args := #[x1, x2, x3, x4, x5], argTypes := tt }, ty, pos, aft, none⟩ :: rest) F L := by
  subst hr
  refine OKx_still (fun w _ _ _ _ _ => ?_) kk
  simp [execOp, resolve, invoke, builtin, h1, h2, h3, h4, h5, Builtin.max_, max2_run, Sem.run_bind, Result.andThen]
end
section
variable {B : Nat} {w0 w : World} {L : List Res}
def strs (xs : List ByteArray) : List Value := xs.map Value.string
theorem Hp.strs (h : Hp B w0 w L) (i : Nat) {e : TypeId} {n : Nat} {v : Value} {xs : List ByteArray} (hi : L[i]? = some (.row e 1 v n (strs xs))) (hn : n ≤ 140737488355328) (hs : ∀ s ∈ xs, s.size ≤ 140737488355328) : Strs w v xs := by
  have ho : w.ownsRow B e 1 v n (Go.Proofs.YtdigdmnnjbndlaaGreatDoor.strs xs) := h.ok _ (List.mem_of_getElem? hi)
  have hl := ho.1
  simp only [Go.Proofs.YtdigdmnnjbndlaaGreatDoor.strs, List.length_map, Nat.mul_one] at hl
  subst hl
  refine ⟨h.sl i hi hn fun j hj => ?_, hs⟩
  have hj' : j < xs.length := by omega
  simp [Go.Proofs.YtdigdmnnjbndlaaGreatDoor.strs, hj']
theorem Hp.tabs (h : Hp B w0 w L) (i : Nat) {e : TypeId} {n : Nat} {v : Value} {vs : List Value} {xs : List (List Int)} (hi : L[i]? = some (.row e 1 v n vs)) (hn : n ≤ 140737488355328) (hl : xs.length = n) (hv : ∀ j, j < n → Ints w (vs.getD j undef) (xs.getD j [])) : Tabs w v xs := by
  have ho : w.ownsRow B e 1 v n vs := h.ok _ (List.mem_of_getElem? hi)
  have hvl := ho.1
  rw [Nat.mul_one] at hvl
  subst hl
  refine ⟨vs, h.sl i hi hn fun j hj => ?_, hvl, fun j hj => ?_⟩
  · have hj' : j < vs.length := by omega
    simp [hj']
  · have := hv j hj
    rwa [getD_lt _ _ _ hj] at this
end
set_option maxRecDepth 100000 in
set_option maxHeartbeats 4000000 in
theorem equalT_sat (v u : Value) (xs ys : List Int) (w : World) (h : Ints w v xs) (k : Ints w u ys) (e : xs = ys) : SatV Tryz.prog 33 [v, u] w (.bool true) := by
  have := equal_int_sat v u xs ys w h k
  rwa [show (xs == ys) = true by rw [e]; simp] at this
end Go.Proofs.YtdigdmnnjbndlaaGreatDoor
namespace Go.Proofs.YtdigdmnnjbndlaaGreatDoor
open Go.RowKit
section
variable {P : Program} {n : Nat} {w0 : World} {K : Fm → List Res → Prop} {F : Fm} {L : List Res} {m : Md} {Lw : List Res} {ops : Array Oper} {rest : List Oper}
  {d : Option Nat} {ty : TypeId} {pos : String} {aft : Array Edge}
theorem OKx_app0 {s x : Operand} {t : TypeId} {e sz bytes : Nat} {z : Value} [T : TSlice P t e sz bytes z] (i : Nat) {a0 ay : Option Addr} {N c0 cy : Nat} {xs : List Value} (hs : rv n F s = .slice a0 N c0) (hx : rv n F x = .slice ay 0 cy) (hi : L[i]? = some (.row e sz (.slice a0 N c0) N xs))
    (kk : OKx P n w0 m ops K rest (updo F d (.slice a0 N c0)) L) : OKx P n w0 m ops K (⟨d, .call { callee := .builtin .append, args := #[s, x], argTypes := #[t, t] }, ty, pos, aft, none⟩ :: rest) F L :=
  OKx_still (fun w hp _ _ _ _ => by
    obtain ⟨i0, hi0, hz0, hz1, hz2⟩ := info_parts T.ty.inf
    have ho : w.ownsRow w0.heap.size e sz (.slice a0 N c0) N xs := hp.ok _ (List.mem_of_getElem? hi)
    have hle : N ≤ c0 := by
      rcases ho.2 with ⟨h0, h2⟩ | ⟨g, cap, cur, h0, _, _, h4, _⟩
      · omega
      · simp only [Value.slice.injEq] at h0
        omega
    cases a0 <;> cases ay <;> simp [execOp, resolve, invoke, builtin, hs, hx, Builtin.append_, run_underlying T.ty.und, sizeOf, typeInfo, hi0, Builtin.lenOf, Builtin.firstCells, hle, storeCells, Result.andThen, loadCells, loadCellsFrom]) kk
end
def dscL (par : List (List Int)) (i : Nat) : Nat → List Bool
  | 0 => []
  | k + 1 => dscL par i k ++ [if k < i then false else if k = i then true else (par.getD k []).any fun p => (dscL par i k).getD p.toNat false]
def dscF (par : List (List Int)) (i k j : Nat) : Bool := (dscL par i k).getD j false
def dsnL (par : List (List Int)) (i k : Nat) : List Int := ((List.range k).filter (fun j => decide (i < j) && dscF par i k j)).map (fun j : Nat => (j : Int))
theorem dsnL_len (par : List (List Int)) (i k : Nat) : (dsnL par i k).length ≤ k := by
  unfold dsnL
  rw [List.length_map]
  exact Nat.le_trans (List.length_filter_le _ _) (by simp)
def DscR (s : Stem) (i : Int) (u : Value) (L : List Res) : Prop :=
  (chkI s i ≠ 0 ∧ u = .tuple #[.slice none 0 0, .int .i64 (chkI s i)] ∧ L = []) ∨
  (chkI s i = 0 ∧ ∃ a n c, n = (dsnL s.par i.toNat s.par.length).length ∧ u = .tuple #[.slice a n c, .int .i64 0] ∧ (0 < n → ∃ g, a = some ⟨g, 0, none⟩) ∧ L = [.row 3 1 (.slice a n c) n (ints (dsnL s.par i.toNat s.par.length))])
end Go.Proofs.YtdigdmnnjbndlaaGreatDoor
namespace Go.Proofs.YtdigdmnnjbndlaaGreatDoor
open Go.RowKit
theorem Fr.yieldU {n : Nat} {F : Fm} {ops : Array Oper} {a : Act} (hf : Fr n a F) {j t : Nat} (hj : (ops[j]?).bind (·.dst) = some t) (hb : rv n F (.tmp t) = undef) : yielded ops a.tmps j = none := by
  have he := hf.eval
  have h1 : a.eval (.tmp t) = undef := by rw [he]; exact hb
  unfold yielded
  rw [hj]
  simp only [Option.bind_some]
  simp only [Act.eval, Frame.eval] at h1
  split
  · rename_i b h2
    simp [h2, undef] at h1
  · rfl
theorem OKx_guardU {P : Program} {n : Nat} {w0 : World} {K : Fm → List Res → Prop} {F : Fm} {L : List Res} {m : Md} {ops : Array Oper} {rest : List Oper} {d : Option Nat} {o : Op} {ty : TypeId} {pos : String} {aft : Array Edge} {j t : Nat} {b : Bool} (hj : (ops[j]?).bind (·.dst) = some t) (hb : rv n F (.tmp t) = undef)
    (h : OKx P n w0 m ops K rest (updo F d undef) L) : OKx P n w0 m ops K (⟨d, o, ty, pos, aft, some (j, b)⟩ :: rest) F L := by
  have key : ∀ a : Act, Fr n a F → Region.wanted (⟨d, o, ty, pos, aft, some (j, b)⟩ : Oper) (yielded ops a.tmps) = false := by
    intro a hf
    simp only [Region.wanted, Fr.yieldU hf hj hb]
    cases b <;> rfl
  unfold OKx at h ⊢
  cases m with
  | seq Lw =>
    intro w a hf hp
    have h1 := h w _ (hf.put d undef) hp
    refine ⟨h1.cls, ?_⟩
    rw [key a hf]
    exact h1
  | quiet =>
    intro a hf
    unfold wpQuiet
    rw [key a hf]
    exact h _ (hf.put d undef)
  | pure =>
    intro a hf
    unfold wpPure
    rw [key a hf]
    exact h _ (hf.put d undef)
theorem OKx_bneq {P : Program} {n : Nat} {w0 : World} {K : Fm → List Res → Prop} {F : Fm} {L : List Res} {m : Md} {ops : Array Oper} {rest : List Oper} {d : Option Nat} {ty : TypeId} {pos : String} {aft : Array Edge} {t ut : TypeId} {x y : Operand} {a b : Bool}
    (ht : P.underlying t = some .bool) (hx : rv n F x = .bool a) (hy : rv n F y = .bool b) (kk : OKx P n w0 m ops K rest (updo F d (.bool (!(a == b)))) L) : OKx P n w0 m ops K (⟨d, .binOp .neq t x y ut, ty, pos, aft, none⟩ :: rest) F L :=
  OKx_still (fun w _ _ _ _ _ => by
    have hg : (eqGuard .neq t x y (.bool a) (.bool b)).run P w = .ok () w := by simp [eqGuard]
    have h := run_neq_bool (P := P) (w := w) t a b ht
    simp [execOp, hx, hy, Sem.run_bind, hg, h, Result.andThen]) kk
end Go.Proofs.YtdigdmnnjbndlaaGreatDoor
