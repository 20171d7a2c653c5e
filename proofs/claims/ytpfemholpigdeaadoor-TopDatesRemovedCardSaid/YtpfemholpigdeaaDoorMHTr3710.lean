/-
  Part 10 of the proof: Cpt, StemR, Ext, Idx, As38, Any, Be38, Gu, As39, Po39, Ro39, Sm38, Lc38, Re39. No statement of the seat is proved here.
-/
import Derived.Test.YtpfemholpigdeaaDoorMHTr379
namespace Go.Proofs.YtpfemholpigdeaaDoor
open Go.RowKit
theorem arr_get (xs : List Int) (j : Nat) (h : j < xs.length) : xs.toArray[j]! = xs[j] := by simp [h]
theorem compact_mem (xs : List Int) (x : Int) : x ∈ Lib.compact xs ↔ x ∈ xs := by
  unfold Lib.compact Lib.compactUpTo
  simp only [List.mem_map, List.mem_filter, List.mem_range]
  constructor
  · rintro ⟨j, ⟨h1, _⟩, rfl⟩
    rw [arr_get xs j h1]
    exact List.getElem_mem h1
  · intro hx
    obtain ⟨j, hj, rfl⟩ := List.getElem_of_mem hx
    clear hx
    induction j with
    | zero => exact ⟨0, ⟨hj, by simp [Lib.keeps]⟩, arr_get xs 0 hj⟩
    | succ j ih =>
      by_cases he : xs[j + 1] = xs[j]
      · rw [he]; exact ih (by omega)
      · refine ⟨j + 1, ⟨hj, ?_⟩, arr_get xs _ hj⟩
        apply Lib.keeps_pos
        rw [arr_get xs _ hj, Nat.add_sub_cancel, arr_get xs j (by omega)]
        exact he
theorem compact_asc (xs : List Int) (h : xs.Pairwise (· ≤ ·)) : (Lib.compact xs).Pairwise (· < ·) := by
  unfold Lib.compact Lib.compactUpTo
  rw [List.pairwise_map]
  refine (List.Pairwise.filter (Lib.keeps xs.toArray) List.pairwise_lt_range).imp_of_mem ?_
  intro i j hi hj hij
  simp only [List.mem_filter, List.mem_range] at hi hj
  have hk : xs.toArray[j]! ≠ xs.toArray[j - 1]! := by
    have := hj.2
    simp only [Lib.keeps, decide_eq_true_eq] at this
    rcases this with h0 | h0
    · omega
    · exact h0
  rw [arr_get xs j hj.1, arr_get xs (j - 1) (by omega)] at hk
  rw [arr_get xs i hi.1, arr_get xs j hj.1]
  have hp := List.pairwise_iff_getElem.1 h
  have h1 := hp (j - 1) j (by omega) hj.1 (by omega)
  rcases Nat.lt_or_ge i (j - 1) with h2 | h2
  · have := hp i (j - 1) hi.1 (by omega) h2
    omega
  · have : i = j - 1 := by omega
    subst this
    omega
theorem compact_len (xs : List Int) : (Lib.compact xs).length ≤ xs.length := by
  unfold Lib.compact Lib.compactUpTo
  rw [List.length_map]
  exact Nat.le_trans (List.length_filter_le _ _) (by simp)
set_option maxRecDepth 100000 in
set_option maxHeartbeats 4000000 in
theorem compact_int_sat (g cap n : Nat) (xs : List Int) (w0 : World) (L : List Res) (i : Nat) (hxn : xs.length = n) (hi : L[i]? = some (.row 3 1 (.slice (some ⟨g, 0, none⟩) n cap) n (ints xs))) (hx : n ≤ 1000000) :
    SatL Tryd.prog 29 [.slice (some ⟨g, 0, none⟩) n cap] w0 L (fun u L' => ∃ k, k = (Lib.compact xs).length ∧ u = .slice (some ⟨g, 0, none⟩) k cap ∧ L' = L.set i (.row 3 1 (.slice (some ⟨g, 0, none⟩) k cap) k (ints (Lib.compact xs)))) := by
  subst hxn
  refine ⟨⟨_, _, Tryd.func29, by kernel_rfl, rfl⟩, fun w hp => ?_⟩
  have ho : w.ownsRow w0.heap.size 3 1 (.slice (some ⟨g, 0, none⟩) xs.length cap) xs.length (ints xs) := hp.ok _ (List.mem_of_getElem? hi)
  have hlt := (ho.lt g rfl).2
  rcases ho.2 with ⟨h0, _⟩ | ⟨g', cap', cur, hv, hg, hb, hn, hcap, hsz, htake⟩
  · cases h0
  cases hv
  rw [Nat.mul_one] at htake
  have hcl := compact_len xs
  let ts := Lib.compact xs ++ List.replicate (xs.length - (Lib.compact xs).length) 0
  have htl : ts.length = xs.length := by simp [ts];omega
  refine (Tryd.slices_Compact_int g 0 cap xs w (Go.holds_of_blockI hb htake) (by omega) hn).mono ?_
  rintro e w' ⟨rfl, q, rfl⟩
  have e0 : ∀ W : World, Go.Sort.grow W #[] = W := fun W => Go.Sort.grow_empty W
  rw [← e0 (Go.Sort.putRow _ _ _ _ _)]
  have h1 : Hp w0.heap.size w0 (Go.Sort.grow (Go.Sort.putRow (Value.int .i64) (Go.Sort.ahead w q) g 0 ts.toArray) #[]) (L.set i (.row 3 1 (.slice (some ⟨g, 0, none⟩) xs.length cap) xs.length (ints ts))) :=
    hp.turn hi (r' := .row 3 1 (.slice (some ⟨g, 0, none⟩) xs.length cap) xs.length (ints ts)) (Go.grownBy_sortedI _) (Go.ownsRow_sortedI (w := w) (n := q) (os := #[]) (ts := ts) htl hg hb hn hcap hsz) (fun k hk => .inl hk)
  have hil : i < L.length := (List.getElem?_eq_some_iff.1 hi).1
  have hi2 : (L.set i (.row 3 1 (.slice (some ⟨g, 0, none⟩) xs.length cap) xs.length (ints ts)))[i]? = some (.row 3 1 (.slice (some ⟨g, 0, none⟩) xs.length cap) xs.length (ints ts)) := by
    rw [List.getElem?_set, if_pos rfl, if_pos hil]
  have h2 := h1.cut i hi2 (Lib.compact xs).length hcl
  rw [List.set_set] at h2
  have h3 : (ints ts).take ((Lib.compact xs).length * 1) = ints (Lib.compact xs) := by
    rw [Nat.mul_one]
    simp [ts, ints]
  rw [h3] at h2
  exact ⟨_, _, rfl, h2, _, rfl, rfl, rfl⟩
end Go.Proofs.YtpfemholpigdeaaDoor
namespace Go.Proofs.YtpfemholpigdeaaDoor
open Go.RowKit
theorem least {p : Nat → Prop} : ∀ j, p j → ∃ i, i ≤ j ∧ p i ∧ ∀ m, m < i → ¬ p m := by
  intro j
  induction j using Nat.strongRecOn with
  | ind j ih =>
    intro hj
    by_cases h : ∃ m, m < j ∧ p m
    · obtain ⟨m, hm, hpm⟩ := h
      obtain ⟨i, hi, h1, h2⟩ := ih m hm hpm
      exact ⟨i, by omega, h1, h2⟩
    · exact ⟨j, Nat.le_refl _, hj, fun m hm hpm => h ⟨m, hm, hpm⟩⟩
theorem place_ne (xs : List ByteArray) (k : Nat) (hk : k < xs.length) : (Lib.idxOfS xs xs[k] != (k : Int)) = Lib.containsS (xs.take k) xs[k] := by
  rw [Bool.eq_iff_iff, bne_iff_ne, Lib.containsS_iff]
  have hg : xs.getD k ByteArray.empty = xs[k] := by simp [hk]
  constructor
  · intro h
    by_cases hm : xs[k] ∈ xs.take k
    · exact hm
    · exfalso
      apply h
      have := Lib.idxOfS_hit xs xs.length k xs[k] hk (Nat.le_refl _) hg (fun j hj e => hm ?_)
      · rw [List.take_length] at this; exact this
      · have hj2 : j < xs.length := by omega
        rw [show xs.getD j ByteArray.empty = xs[j] from by simp [hj2]] at e
        rw [← e]
        exact List.mem_take_iff_getElem.2 ⟨j, by omega, rfl⟩
  · intro hm h
    obtain ⟨j, hj, e⟩ := List.mem_take_iff_getElem.1 hm
    -- the first place is at most j
    have hjk : j < k := by omega
    have hfirst : ∃ i, i ≤ j ∧ xs.getD i ByteArray.empty = xs[k] ∧ ∀ m, m < i → xs.getD m ByteArray.empty ≠ xs[k] := by
      exact least (p := fun i => xs.getD i ByteArray.empty = xs[k]) j (by rw [show xs.getD j ByteArray.empty = xs[j]'(by omega) from by simp [show j < xs.length by omega]]; exact e)
    obtain ⟨i, hi, h1, h2⟩ := hfirst
    have := Lib.idxOfS_hit xs xs.length i xs[k] (by omega) (Nat.le_refl _) h1 h2
    rw [List.take_length] at this
    omega
set_option maxRecDepth 100000 in
set_option maxHeartbeats 4000000 in
theorem rstCheck_any (v : Value) (s : Stem) (w : World) (h : Stm w v s) :
    Calls Tryd.prog 47 #[v] w fun e w' => e = .returned (.int .i64 (stCheck s)) ∧ Hp w.heap.size w w' [] := by
  obtain ⟨nv, ev, pv, rfl, hS, hE, hP⟩ := h
  obtain ⟨na, ncap, rfl, hnl, hN⟩ := hS.at
  obtain ⟨ea, ecap, rfl, hel, hE'⟩ := hE.at
  obtain ⟨pa, pcap, rfl, hpl, hP'⟩ := hP.at
  have HS := Lib.hid hS; clear hS
  have HN := Lib.hid hN; clear hN
  have HP := Lib.hid hP'; clear hP' hE' hE hP
  have hp0 := (Hp.refl w).box 26 #[.slice na s.names.length ncap, .slice ea s.ext.length ecap, .slice pa s.par.length pcap]
  by_cases h0 : s.names.length = 0
  · have e : stCheck s = 5 := by rw [stCheck, if_pos h0]
    have HE := Lib.hid e; clear e
    have hc : ((s.names.length : Int) == 0) = true := by rw [beq_iff_eq];omega
    have H0 := Lib.hid h0; clear h0
    go_enter Tryd.func47, Tryd.ntmps47
    go_wp2_with fail
    go_ret
    exact ⟨ret_int HE.out.symm, hp0.none⟩
  have hc : ((s.names.length : Int) == 0) = false := by rw [beq_eq_false_iff_ne];omega
  by_cases h64 : 64 < s.names.length
  · have e : stCheck s = 4 := by rw [stCheck, if_neg h0, if_pos h64]
    have HE := Lib.hid e; clear e
    go_enter Tryd.func47, Tryd.ntmps47
    go_wp2_with fail
    go_ret
    exact ⟨ret_int HE.out.symm, hp0.none⟩
  by_cases he : s.ext.length = s.names.length
  case neg =>
    have e : stCheck s = 9 := by rw [stCheck, if_neg h0, if_neg h64, if_pos (.inl he)]
    have HE := Lib.hid e; clear e
    have hc2 : ((s.ext.length : Int) != s.names.length) = true := by rw [bne_iff_ne];omega
    go_enter Tryd.func47, Tryd.ntmps47
    go_wp2_with fail
    go_ret
    exact ⟨ret_int HE.out.symm, hp0.none⟩
  by_cases hpp : s.par.length = s.names.length
  case neg =>
    have e : stCheck s = 9 := by rw [stCheck, if_neg h0, if_neg h64, if_pos (.inr hpp)]
    have HE := Lib.hid e; clear e
    have hc2 : ((s.ext.length : Int) != s.names.length) = false := by rw [bne_eq_false_iff_eq];omega
    have hc3 : ((s.par.length : Int) != s.names.length) = true := by rw [bne_iff_ne];omega
    have HH := Lib.hid he; clear he
    go_enter Tryd.func47, Tryd.ntmps47
    go_wp2_with fail
    go_ret
    exact ⟨ret_int HE.out.symm, hp0.none⟩
  have hc2 : ((s.ext.length : Int) != s.names.length) = false := by rw [bne_eq_false_iff_eq];omega
  have hc3 : ((s.par.length : Int) != s.names.length) = false := by rw [bne_eq_false_iff_eq];omega
  have HAT := Lib.hid (stCheck_at s · h0 h64 he hpp)
  have HOK := Lib.hid (stCheck_ok s h0 h64 he hpp)
  have HHE := Lib.hid he; clear he
  have HHP := Lib.hid hpp; clear hpp
  go_enter Tryd.func47, Tryd.ntmps47
  go_wp2_with fail
  go_loopw [4] (fun i wr => ∃ k : Nat, k ≤ s.names.length ∧ i = .int .i64 k ∧ Hid (firstErr (stAt s) k = 0) ∧
      Hp w.heap.size w wr [.box 26 w.heap.size [.slice na s.names.length ncap, .slice ea s.ext.length ecap, .slice pa s.par.length pcap]]) (fun i _ => s.names.length - (intOf i).toNat)
  case atStart => exact ⟨0, by omega, rfl, rfl, hp0⟩
  case round =>
    clear hp0
    obtain ⟨k, hk, rfl, hf, hp⟩ := hrel
    by_cases hlt : k < s.names.length
    · obtain ⟨bc, bf, bb, bl⟩ := hp.boxAt 0 rfl
      have b0 := bc 0
      have b2 := bc 2
      clear bc bf
      obtain ⟨hsz, nb, noff, rfl, hcell⟩ := HN.out k hlt
      have HNC := Lib.hid hcell
      have hcell := (hp.below.cell (World.block_lt_of_cell? w _ hcell)).trans hcell
      have hkp : k < s.par.length := by rw [HHP.out]; exact hlt
      obtain ⟨pb, poff, u, rfl, hpc, hpi⟩ := HP.out k hkp
      have HPC := Lib.hid hpc; clear hpc
      obtain ⟨ra, rcap, rfl, hrl, hr⟩ := hpi.at
      have HPI := Lib.hid hpi; clear hpi
      have HR := Lib.hid hr; clear hr
      have hst : stAt s k = if leafNm s.names[k] = false then 14 else if Lib.containsS (s.names.take k) s.names[k] = true then 7 else if rngB s.par[k] k = true then 2 else if incB s.par[k] = false then 10 else 0 := by
        rw [stAt]; simp [hlt, hkp]
      have HST := Lib.hid hst; clear hst
      have HPL := Lib.hid (place_ne s.names k hlt)
      generalize hnm : s.names[k] = nm at *
      generalize hpk : s.par[k] = pk at *
      have HX1 := Lib.hid hnm; clear hnm
      have HX2 := Lib.hid hpk; clear hpk
      go_wp2_with fail
      refine (named_any nm _ hsz).mono ?_
      rintro e w1 ⟨rfl, hq1⟩
      have hp1 : Hp w.heap.size w w1 _ := hp.call hq1
      clear hp hcell b0 b2
      cases hb : leafNm nm with
      | false =>
        go_wp2_with fail
        go_ret
        exact ⟨ret_int (HAT.out k hlt hf.out 14 (by rw [HST.out, if_pos hb]) (by decide)).symm, hp1.none⟩
      | true =>
        have HB := Lib.hid hb; clear hb
        obtain ⟨bc, bf, _, _⟩ := hp1.boxAt 0 rfl
        have b0 := bc 0
        have b2 := bc 2
        clear bc bf
        have hcell := (hp1.below.cell (World.block_lt_of_cell? w _ HNC.out)).trans HNC.out
        have hpc := (hp1.below.cell (World.block_lt_of_cell? w _ HPC.out)).trans HPC.out
        have hS1 := HS.out.below hp1.below
        have HS1 := Lib.hid hS1; clear hS1
        cases hb2 : Lib.containsS (s.names.take k) nm with
        | true =>
          have hpl' : (Lib.idxOfS s.names nm != (k : Int)) = true := HPL.out.trans hb2
          have HB2 := Lib.hid hb2; clear hb2
          go_wp2_with fail
          go_quiet ((go_at_call 75; exact Calls.quiet_of_same ((place_any _ _ _ _ (HS1.out.below (Quiet.below ⟨_, rfl⟩))).mono fun e w' ⟨h1, h2⟩ => ⟨h1, h2.symm⟩)))
          go_wp2_with fail
          go_ret
          exact ⟨ret_int (HAT.out k hlt hf.out 7 (by rw [HST.out, if_neg (by rw [HB.out]; simp), if_pos HB2.out]) (by decide)).symm, (hp1.drewN _).none⟩
        | false =>
          have hpl' : (Lib.idxOfS s.names nm != (k : Int)) = false := HPL.out.trans hb2
          have HB2 := Lib.hid hb2; clear hb2
          go_wp2_with fail
          go_quiet ((go_at_call 75; exact Calls.quiet_of_same ((place_any _ _ _ _ (HS1.out.below (Quiet.below ⟨_, rfl⟩))).mono fun e w' ⟨h1, h2⟩ => ⟨h1, h2.symm⟩)))
          go_wp2_with fail
          obtain ⟨wo, rfl⟩ : ∃ wo : World, wo = wr := ⟨_, rfl⟩
          go_loopw [5] (fun i wi => ∃ j : Nat, j ≤ pk.length ∧ i = .int .i64 j ∧ Hid (∀ m, m < j → (hm : m < pk.length) → (decide (pk[m] < 0) || decide ((k : Int) ≤ pk[m])) = false) ∧
              Hp w.heap.size w wi [.box 26 w.heap.size [.slice (some ⟨nb, noff, none⟩) s.names.length ncap, .slice ea s.ext.length ecap, .slice (some ⟨pb, poff, none⟩) s.par.length pcap]]) (fun i _ => pk.length - (intOf i).toNat)
          case atStart => exact ⟨0, by omega, rfl, fun m h1 => absurd h1 (by omega), hp1.drewN _⟩
          case round =>
            clear hp1 hcell hpc b0 b2
            obtain ⟨j, hjn, rfl, hno, hp3⟩ := hrel
            obtain ⟨bc, bcf, _, _⟩ := hp3.boxAt 0 rfl
            have c2 := bc 2
            clear bc bcf
            have pc := (hp3.below.cell (World.block_lt_of_cell? w _ HPC.out)).trans HPC.out
            by_cases hjl : j < pk.length
            · obtain ⟨rb, roff, rfl, r0⟩ := HR.out j hjl
              have r0 := (hp3.below.cell (World.block_lt_of_cell? w _ r0)).trans r0
              cases hbad : (decide (pk[j] < 0) || decide ((k : Int) ≤ pk[j])) with
              | true =>
                have hany : rngB pk k = true := List.any_eq_true.2 ⟨pk[j], List.getElem_mem hjl, hbad⟩
                have HANY := Lib.hid hany; clear hany
                generalize pk[j] = pj at *
                by_cases h1 : pj < 0
                · go_wp2_with fail
                  go_ret
                  exact ⟨ret_int (HAT.out k hlt hf.out 2 (by rw [HST.out, if_neg (by rw [HB.out]; simp), if_neg (by rw [HB2.out]; simp), if_pos HANY.out]) (by decide)).symm, hp3.none⟩
                · have h2 : (k : Int) ≤ pj := by simpa [h1] using hbad
                  clear hbad
                  go_wp2_with fail
                  go_ret
                  exact ⟨ret_int (HAT.out k hlt hf.out 2 (by rw [HST.out, if_neg (by rw [HB.out]; simp), if_neg (by rw [HB2.out]; simp), if_pos HANY.out]) (by decide)).symm, hp3.none⟩
              | false =>
                have HBAD := Lib.hid hbad
                have h12 : ¬ pk[j] < 0 ∧ ¬ (k : Int) ≤ pk[j] := by simpa using hbad
                obtain ⟨h1, h2⟩ := h12
                clear hbad
                go_wp2_with fail
                go_roundw
                case rel =>
                  refine ⟨j + 1, by omega, by go_num, fun m h1 hm => ?_, hp3⟩
                  rcases Nat.lt_or_ge m j with h3 | h3
                  · exact hno.out m h3 hm
                  · obtain rfl : m = j := by omega
                    exact HBAD.out
                case measure => simp [intOf];omega
            · have hb3 : rngB pk k = false := by
                rw [rngB, List.any_eq_false]
                intro x hx
                obtain ⟨m, hm, rfl⟩ := List.getElem_of_mem hx
                rw [hno.out m (by omega) hm]; simp
              have HB3 := Lib.hid hb3; clear hb3
              go_wp2_with fail
              go_loopw [6] (fun i wi => ∃ j : Nat, 1 ≤ j ∧ i = .int .i64 j ∧ Hid (∀ m, 1 ≤ m → m < j → (hm : m < pk.length) → pk[m - 1]'(by omega) < pk[m]) ∧
                  Hp w.heap.size w wi [.box 26 w.heap.size [.slice (some ⟨nb, noff, none⟩) s.names.length ncap, .slice ea s.ext.length ecap, .slice (some ⟨pb, poff, none⟩) s.par.length pcap]]) (fun i _ => pk.length - (intOf i).toNat)
              case atStart => exact ⟨1, by omega, rfl, fun m h1 h2 => absurd h2 (by omega), hp3⟩
              case round =>
                clear hp3 c2 pc
                obtain ⟨j, hj1, rfl, hinc, hp3⟩ := hrel
                obtain ⟨bc, bcf, _, _⟩ := hp3.boxAt 0 rfl
                have c2 := bc 2
                clear bc bcf
                have pc := (hp3.below.cell (World.block_lt_of_cell? w _ HPC.out)).trans HPC.out
                by_cases hjl : j < pk.length
                · obtain ⟨rb, roff, rfl, r0⟩ := HR.out j hjl
                  obtain ⟨rb', roff', hra, r1⟩ := HR.out (j - 1) (by omega)
                  simp only [Option.some.injEq, Addr.mk.injEq, and_true] at hra
                  obtain ⟨rfl, rfl⟩ := hra
                  have r0 := (hp3.below.cell (World.block_lt_of_cell? w _ r0)).trans r0
                  have r1 := (hp3.below.cell (World.block_lt_of_cell? w _ r1)).trans r1
                  by_cases hle : pk[j] ≤ pk[j - 1]
                  · have hno := incB_not pk j hj1 hjl hle
                    have HNO := Lib.hid hno; clear hno
                    generalize pk[j] = pj at *
                    generalize pk[j - 1] = pj1 at *
                    go_wp2_with fail
                    go_quiet (fail)
                    go_wp2_with fail
                    go_ret
                    exact ⟨ret_int (HAT.out k hlt hf.out 10 (by rw [HST.out, if_neg (by rw [HB.out]; simp), if_neg (by rw [HB2.out]; simp), if_neg (by rw [HB3.out]; simp), if_pos HNO.out]) (by decide)).symm, (hp3.drewN _).none⟩
                  · have HLT := Lib.hid (Int.not_le.1 hle)
                    go_wp2_with fail
                    go_quiet (fail)
                    go_wp2_with fail
                    go_roundw
                    case rel =>
                      refine ⟨j + 1, by omega, by go_num, fun m h1 h2 hm => ?_, hp3.drewN _⟩
                      rcases Nat.lt_or_ge m j with h3 | h3
                      · exact hinc.out m h1 h3 hm
                      · obtain rfl : m = j := by omega
                        exact HLT.out
                    case measure => simp [intOf];omega
                · have hinc2 := incB_of pk (fun m h1 hm => hinc.out m h1 (by omega) hm)
                  have HI2 := Lib.hid hinc2; clear hinc2
                  go_wp2_with fail
                  go_roundw
                  case rel =>
                    exact ⟨k + 1, by omega, by go_num, firstErr_step _ _ hf.out (by rw [HST.out, if_neg (by rw [HB.out]; simp), if_neg (by rw [HB2.out]; simp), if_neg (by rw [HB3.out]; simp), if_neg (by rw [HI2.out]; simp)]), hp3⟩
                  case measure => simp [intOf];omega
    · obtain rfl : k = s.names.length := by omega
      go_wp2_with fail
      go_ret
      exact ⟨ret_int (HOK.out hf.out).symm, hp.none⟩
end Go.Proofs.YtpfemholpigdeaaDoor
namespace Go.Proofs.YtpfemholpigdeaaDoor
open Go.RowKit
set_option maxRecDepth 100000 in
set_option maxHeartbeats 4000000 in
theorem stCheck_sat (v : Value) (s : Stem) (w : World) (h : Stm w v s) : SatV Tryd.prog 13 [v] w (.int .i64 (stCheck s)) :=
  Sat.lib ⟨_, _, Tryd.func13, by kernel_rfl, rfl⟩ fun w1 hb => (stCheck_any v s w1 (h.below hb)).mono fun e w' ⟨h1, h2⟩ => ⟨_, [], h1, h2, rfl, rfl⟩
def chkI (s : Stem) (i : Int) : Int := if stCheck s ≠ 0 then 1 else if i < 0 ∨ (s.names.length : Int) ≤ i then 6 else 0
set_option maxRecDepth 100000 in
set_option maxHeartbeats 4000000 in
theorem chk36_sat (v : Value) (s : Stem) (i : Int) (w : World) (h : Stm w v s) : SatV Tryd.prog 53 [v, .int .i64 i] w (.int .i64 (chkI s i)) := by
  have hst := h
  obtain ⟨nv, ev, pv, rfl, hS, _, hP⟩ := h
  have hnv := hS.sl
  refine SatL.of 19 [4] Tryd.func53 (by kernel_rfl) (by kernel_rfl) rfl rfl rfl rfl ?_
  repeat' (first|(apply OK_seq)|(apply thenQ_n)|(apply OK_region)|(apply OKx_gc 13;exact rfl; refine OKx_callV (f := 13) rfl rfl rfl (fun w hp => stCheck_sat _ s w (hst.below hp.below)) ?_)|(apply OKx_nilK)|(apply OK_block)|(apply blockQ_n)|(apply blockQ_s)|(apply thenQ_e)|(apply blockQ_e;exact rfl)|(apply thenQ_r)|(apply blockQ_r)|(apply OK_condT;exact rfl)|(apply OK_condF;exact rfl)|(apply OK_skip)|(apply OK_exit)|(apply OK_ret)|(apply OKx_move;(conv=>lhs;whnf)<;>exact rfl)|(apply OKx_assign;(conv=>lhs;whnf)<;>exact rfl)|(apply OKx_ldB;exact rfl;(first | exact at0|exact at1|exact at2|exact at3|exact at4|exact at5|exact at6|exact at7);exact rfl)|(apply OKx_ldR;(conv=>lhs;whnf)<;>exact rfl;(with_reducible assumption))|(apply OKx_len;exact rfl)|(apply OKx_lenR;(conv=>lhs;whnf)<;>exact rfl;(with_reducible assumption))|(apply OKx_lenR2;(conv=>lhs;whnf)<;>exact rfl;(with_reducible assumption))|(apply OKx_lenO;(conv=>lhs;whnf)<;>exact rfl;(first | exact at0|exact at1|exact at2|exact at3|exact at4|exact at5|exact at6|exact at7))|(apply OKx_lss;exact rfl;exact rfl;all_goals (intro _; try (exfalso;omega)))|(apply OKx_geq;exact rfl;exact rfl;all_goals (intro _; try (exfalso;omega)))|(apply OKx_neq;exact rfl;exact rfl;all_goals (intro _; try (exfalso;omega)))|(apply OKx_fldO;exact rfl;exact rfl)|(apply OKx_fldR;(conv=>lhs;whnf)<;>exact rfl;(with_reducible assumption); decide;intro _ _)|(apply OKx_pickT;exact rfl;(conv=>lhs;whnf)<;>exact rfl)|(apply OKx_pickF;exact rfl;(conv=>lhs;whnf)<;>exact rfl)|(apply OKx_guardT;exact rfl;exact rfl)|(apply OKx_guardF;exact rfl;exact rfl)|(apply OKx_guardU;exact rfl;exact rfl)|(apply OKx_boxA;exact rfl;intro _)|(apply OKx_ldBA;exact rfl;(first | exact at0|exact at1|exact at2|exact at3|exact at4|exact at5|exact at6|exact at7);exact rfl)|(apply OKx_ldRA;(conv=>lhs;whnf)<;>exact rfl;(with_reducible assumption)))
  all_goals
    refine bodyQ_r1 (by ((conv=>lhs;whnf)<;>exact rfl)) ?_
    exact ⟨_, Ent.nil, int_eq (by unfold chkI; split <;> (try split) <;> omega), rfl⟩
theorem chkI_zero {s : Stem} {i : Int} (h : chkI s i = 0) : stCheck s = 0 ∧ 0 ≤ i ∧ i < s.names.length := by
  unfold chkI at h
  split at h
  · omega
  · split at h
    · omega
    · omega
theorem firstErr_all (f : Nat → Int) : ∀ n, (∀ k, k < n → f k = 0) → firstErr f n = 0
  | 0, _ => rfl
  | n + 1, h => firstErr_step f n (firstErr_all f n (fun k hk => h k (by omega))) (h n (by omega))
end Go.Proofs.YtpfemholpigdeaaDoor
namespace Go.Proofs.YtpfemholpigdeaaDoor
open Go.RowKit
def IdxW (p : Nat → Bool) (N : Nat) (u : Value) (L : List Res) : Prop := L = [] ∧ ((∃ k : Nat, k < N ∧ u = .int .i64 (k : Int) ∧ p k = true ∧ ∀ j, j < k → p j = false) ∨ (u = .int .i64 (-1) ∧ ∀ j, j < N → p j = false))
set_option maxRecDepth 100000 in
set_option maxHeartbeats 4000000 in
theorem indexW_int_sat (v : Value) (N : Nat) (e : Nat → Value) (p : Nat → Bool) (g : FuncId) (cs : Array Value) (w : World) (h : Sl w v 1 N e) (hf : ∀ k, k < N → ∀ w1, Below w.heap.size w w1 → SatV Tryd.prog g (e k :: cs.toList) w1 (.bool (p k))) :
    Sat Tryd.prog 73 [v, .func (.func g) #[] cs] w (IdxW p N) := by
  have hN := h.bound
  refine SatL.of 19 [4] Tryd.func73 (by kernel_rfl) (by kernel_rfl) rfl rfl rfl rfl ?_
  repeat' (first|(apply OK_seq)|(apply thenQ_n)|(apply OK_region)|(apply OKx_nilK)|(apply OK_block)|(apply blockQ_n)|(apply blockQ_s)|(apply thenQ_e)|(apply blockQ_e;exact rfl)|(apply thenQ_r)|(apply blockQ_r)|(apply OK_condT;exact rfl)|(apply OK_condF;exact rfl)|(apply OK_skip)|(apply OK_exit)|(apply OK_ret)|(apply OKx_move;(conv=>lhs;whnf)<;>exact rfl)|(apply OKx_assign;(conv=>lhs;whnf)<;>exact rfl)|(apply OKx_ldB;exact rfl;(first | exact at0|exact at1|exact at2|exact at3|exact at4|exact at5|exact at6|exact at7);exact rfl)|(apply OKx_ldR;(conv=>lhs;whnf)<;>exact rfl;(with_reducible assumption))|(apply OKx_ldI;exact rfl;(first | exact at0|exact at1|exact at2|exact at3|exact at4|exact at5|exact at6|exact at7);omega)|(apply OKx_len;exact rfl)|(apply OKx_lenR;(conv=>lhs;whnf)<;>exact rfl;(with_reducible assumption))|(apply OKx_lenR2;(conv=>lhs;whnf)<;>exact rfl;(with_reducible assumption))|(apply OKx_lenO;(conv=>lhs;whnf)<;>exact rfl;(first | exact at0|exact at1|exact at2|exact at3|exact at4|exact at5|exact at6|exact at7))|(apply OKx_lss;exact rfl;exact rfl;all_goals (intro _; try (exfalso;omega)))|(apply OKx_idxO;exact rfl;exact rfl;omega)|(apply OKx_idxR;(conv=>lhs;whnf)<;>exact rfl;(with_reducible assumption);exact rfl;omega;intro _ _)|(apply OKx_idxOz;exact rfl;exact rfl;omega;omega)|(apply OKx_idxRz;(conv=>lhs;whnf)<;>exact rfl;(with_reducible assumption);exact rfl;omega;omega;intro _ _)|(apply OKx_inc;exact rfl;exact rfl;omega)|(apply OKx_addN;exact rfl;exact rfl;omega)|(apply OKx_add;exact rfl;exact rfl;omega;omega))
  refine OK_loop1 8 [4, 5, 8, 9, 10, 11, 12, 13, 14, 15, 16, 17, 18] (fun m v L => ∃ k : Nat, k + m = N ∧ v = .int .i64 (k : Int) ∧ (∀ j, j < k → p j = false) ∧ L = []) N [] (Ent.refl _ _) ⟨0, by omega, rfl, fun j hj => absurd hj (by omega), rfl⟩ ?_
  rintro m v' L G ⟨k, hm, rfl, H, rfl⟩
  repeat' (first|(apply OK_seq)|(apply thenQ_n)|(apply OK_region)|(refine OKx_callB (f := g) rfl rfl rfl (fun w hp => hf k (by omega) w hp.below) ?_ ?_ <;> intro hq)|(apply OKx_nilK)|(apply OK_block)|(apply blockQ_n)|(apply blockQ_s)|(apply thenQ_e)|(apply blockQ_e;exact rfl)|(apply thenQ_r)|(apply blockQ_r)|(apply OK_condT;exact rfl)|(apply OK_condF;exact rfl)|(apply OK_skip)|(apply OK_exit)|(apply OK_ret)|(apply OKx_move;(conv=>lhs;whnf)<;>exact rfl)|(apply OKx_assign;(conv=>lhs;whnf)<;>exact rfl)|(apply OKx_ldB;exact rfl;(first | exact at0|exact at1|exact at2|exact at3|exact at4|exact at5|exact at6|exact at7);exact rfl)|(apply OKx_ldR;(conv=>lhs;whnf)<;>exact rfl;(with_reducible assumption))|(apply OKx_ldI;exact rfl;(first | exact at0|exact at1|exact at2|exact at3|exact at4|exact at5|exact at6|exact at7);omega)|(apply OKx_len;exact rfl)|(apply OKx_lenR;(conv=>lhs;whnf)<;>exact rfl;(with_reducible assumption))|(apply OKx_lenR2;(conv=>lhs;whnf)<;>exact rfl;(with_reducible assumption))|(apply OKx_lenO;(conv=>lhs;whnf)<;>exact rfl;(first | exact at0|exact at1|exact at2|exact at3|exact at4|exact at5|exact at6|exact at7))|(apply OKx_lss;exact rfl;exact rfl;all_goals (intro _; try (exfalso;omega)))|(apply OKx_idxO;exact rfl;exact rfl;omega)|(apply OKx_idxR;(conv=>lhs;whnf)<;>exact rfl;(with_reducible assumption);exact rfl;omega;intro _ _)|(apply OKx_idxOz;exact rfl;exact rfl;omega;omega)|(apply OKx_idxRz;(conv=>lhs;whnf)<;>exact rfl;(with_reducible assumption);exact rfl;omega;omega;intro _ _)|(apply OKx_inc;exact rfl;exact rfl;omega)|(apply OKx_addN;exact rfl;exact rfl;omega)|(apply OKx_add;exact rfl;exact rfl;omega;omega))
  · refine bodyQ_r1 (by ((conv=>lhs;whnf)<;>exact rfl)) ?_
    exact ⟨_, Ent.refl _ _, rfl, .inl ⟨k, by omega, rfl, hq, H⟩⟩
  · refine ⟨by (repeat' (first | refine agree_upd rfl ?_ | exact agree_over | exact agree_refl _ _ | refine agree_over2 rfl ?_)), m - 1, _, by omega, Ent.refl _ _, ?_⟩
    refine ⟨k + 1, by omega, rfl, fun j hj => ?_, rfl⟩
    by_cases hjk : j < k
    · exact H j hjk
    · obtain rfl : j = k := by omega
      exact hq
  · refine bodyQ_r1 (by ((conv=>lhs;whnf)<;>exact rfl)) ?_
    exact ⟨_, Ent.refl _ _, rfl, .inr ⟨rfl, fun j hj => H j (by omega)⟩⟩
theorem find_first (P : Int → Bool) : ∀ (xs : List Int) (i : Nat), i < xs.length → P (xs.getD i 0) = true → (∀ j, j < i → P (xs.getD j 0) = false) → xs.find? P = some (xs.getD i 0) := by
  intro xs
  induction xs with
  | nil => intro i h; simp at h
  | cons x xs ih =>
    intro i hi h1 h2
    cases i with
    | zero =>
      have e : P x = true := h1
      rw [List.find?_cons_of_pos e]; rfl
    | succ i =>
      have e : ¬ P x = true := by have := h2 0 (by omega); simpa using this
      rw [List.find?_cons_of_neg e]
      exact ih i (by simpa using hi) h1 (fun j hj => h2 (j + 1) (by omega))
end Go.Proofs.YtpfemholpigdeaaDoor
namespace Go.Proofs.YtpfemholpigdeaaDoor
open Go.RowKit
theorem Ent.pickT {w0 : World} (A X : List Res) (is : List Nat) (hn : nodupB is = true) : Ent w0 (A ++ X) (pickL A is ++ X) := Ent.mk fun w hp => by
  induction is with
  | nil => exact hp.sub (List.sublist_append_right A X)
  | cons i is ih =>
    have hm : memN i is = false := by
      cases hb : memN i is with
      | false => rfl
      | true => simp [nodupB, hb] at hn
    have ih := ih (by simpa [nodupB, hm] using hn)
    unfold pickL at ih ⊢
    rw [List.filterMap_cons]
    cases hi : A[i]? with
    | none => exact ih
    | some r =>
      have hil := (List.getElem?_eq_some_iff.1 hi).1
      have hi' : (A ++ X)[i]? = some r := by rw [List.getElem?_append_left hil]; exact hi
      refine ih.cons (hp.ok r (List.mem_of_getElem? hi')) fun s hs => ?_
      rcases List.mem_append.1 hs with hs | hs
      · obtain ⟨j, hj, hjs⟩ := List.mem_filterMap.1 hs
        have hjl := (List.getElem?_eq_some_iff.1 hjs).1
        have hij : i ≠ j := by
          rintro rfl
          have := (memN_iff i is).2 hj
          rw [hm] at this; cases this
        exact hp.apart hij hi' (j := j) (by rw [List.getElem?_append_left hjl]; exact hjs)
      · obtain ⟨j, hj, rfl⟩ := List.getElem_of_mem hs
        exact hp.apart (i := i) (j := A.length + j) (by omega) hi' (by rw [List.getElem?_append_right (by omega)]; simp [hj])
end Go.Proofs.YtpfemholpigdeaaDoor
namespace Go.Proofs.YtpfemholpigdeaaDoor
open Go.RowKit
def maskS (n : Nat) (S : List Nat) : Array Bool := ((List.range n).map fun i => memN i S).toArray
section
variable {P : Program} {n : Nat} {w0 : World} {Q : Exit → Fm → List Res → Prop} {K : Fm → List Res → Prop} {F : Fm} {L : List Res} {l : List Oper} {N f : Nat} {S : List Nat}
def OKa (P : Program) (n : Nat) (w0 : World) (K : Fm → List Res → Prop) (l : List Oper) (N f : Nat) (S : List Nat) (F : Fm) (L : List Res) : Prop :=
  ∀ w a, Fr n a F → Hp w0.heap.size w0 w L → wpAny P .any l.toArray (liftN n w0 K) f (maskS N S) a w
theorem OKa.use (h : OKa P n w0 K l N f S F L) : ∀ w a, Fr n a F → Hp w0.heap.size w0 w L → wpAny P .any l.toArray (liftN n w0 K) f (maskS N S) a w := h
theorem OKa_end (hr : (Region.ready .any l.toArray (maskS N S)).isEmpty = true) (h : K F L) : OKa P n w0 K l N 0 S F L :=
  fun w a hf hp => ⟨List.isEmpty_iff.1 hr, rfl, F, L, hf, hp, h⟩
def kidOk (l : List Oper) (N : Nat) (S : List Nat) (i : Nat) (S' : List Nat) : Bool := (maskS N S').toList == ((maskS N S).setIfInBounds i true).toList
theorem kidOk_eq {i : Nat} {S' : List Nat} (h : kidOk l N S i S' = true) : maskS N S' = (maskS N S).setIfInBounds i true := by
  unfold kidOk at h
  exact Array.toList_inj.1 (beq_iff_eq.1 h)
end
attribute [irreducible] OKa
end Go.Proofs.YtpfemholpigdeaaDoor
namespace Go.Proofs.YtpfemholpigdeaaDoor
open Go.RowKit
theorem SatY.mono {P : Program} {l : Nat} {args : List Value} {w0 : World} {L : List Res} {R R' : Value → List Res → Prop} (h : SatY P l args w0 L R) (hr : ∀ v L, R v L → R' v L) : SatY P l args w0 L R' :=
  fun w hp => let ⟨fn, t, as2, b, h1, h2⟩ := h w hp; ⟨fn, t, as2, b, h1, h2.mono fun e w' ⟨v, L', a, b, c⟩ => ⟨v, L', a, b, hr _ _ c⟩⟩
end Go.Proofs.YtpfemholpigdeaaDoor
namespace Go.Proofs.YtpfemholpigdeaaDoor
open Go.RowKit
theorem Fr.yieldU {n : Nat} {F : Fm} {ops : Array Oper} {a : Act} (hf : Fr n a F) {j t : Nat} (hj : (ops[j]?).bind (·.dst) = some t) (hb : rv n F (.tmp t) = undef) : yielded ops a.tmps j = none := by
  have he := hf.eval
  have h1 : a.eval (.tmp t) = undef := by rw [he]; exact hb
  unfold yielded
  rw [hj]
  simp only [Option.bind_some]
  simp only [Act.eval, Frame.eval] at h1
  split
  · rename_i b h2
    simp [h2, undef] at h1
  · rfl
theorem OKx_guardU {P : Program} {n : Nat} {w0 : World} {K : Fm → List Res → Prop} {F : Fm} {L : List Res} {m : Md} {ops : Array Oper} {rest : List Oper} {d : Option Nat} {o : Op} {ty : TypeId} {pos : String} {aft : Array Edge} {j t : Nat} {b : Bool} (hj : (ops[j]?).bind (·.dst) = some t) (hb : rv n F (.tmp t) = undef)
    (h : OKx P n w0 m ops K rest (updo F d undef) L) : OKx P n w0 m ops K (⟨d, o, ty, pos, aft, some (j, b)⟩ :: rest) F L := by
  have key : ∀ a : Act, Fr n a F → Region.wanted (⟨d, o, ty, pos, aft, some (j, b)⟩ : Oper) (yielded ops a.tmps) = false := by
    intro a hf
    simp only [Region.wanted, Fr.yieldU hf hj hb]
    cases b <;> rfl
  unfold OKx at h ⊢
  cases m with
  | seq Lw =>
    intro w a hf hp
    have h1 := h w _ (hf.put d undef) hp
    refine ⟨h1.cls, ?_⟩
    rw [key a hf]
    exact h1
  | quiet =>
    intro a hf
    unfold wpQuiet
    rw [key a hf]
    exact h _ (hf.put d undef)
  | pure =>
    intro a hf
    unfold wpPure
    rw [key a hf]
    exact h _ (hf.put d undef)
end Go.Proofs.YtpfemholpigdeaaDoor
namespace Go.Proofs.YtpfemholpigdeaaDoor
open Go.RowKit
theorem SatL.post {P : Program} {f : FuncId} {args : List Value} {w0 : World} {L : List Res} {R R' : Value → List Res → Prop} (h : SatL P f args w0 L R) (hr : ∀ v L', R v L' → ∃ L'', Ent w0 L' L'' ∧ R' v L'') : SatL P f args w0 L R' :=
  ⟨h.enters, fun w hp => (h.calls w hp).mono fun e w' ⟨v, L', h1, h2, h3⟩ => by
    obtain ⟨L'', e', h4⟩ := hr v L' h3
    exact ⟨v, L'', h1, e'.use _ h2, h4⟩⟩
end Go.Proofs.YtpfemholpigdeaaDoor
namespace Go.Proofs.YtpfemholpigdeaaDoor
open Go.RowKit
theorem getD_snoc {α : Type} (l : List α) (a d : α) (j : Nat) : (l ++ [a]).getD j d = if j < l.length then l.getD j d else if j = l.length then a else d := by
  by_cases h : j < l.length
  · rw [if_pos h]; simp [List.getD_eq_getElem?_getD, List.getElem?_append_left h]
  · rw [if_neg h]
    by_cases h2 : j = l.length
    · subst h2; simp
    · rw [if_neg h2, getD_ge _ _ _ (by simp;omega)]
end Go.Proofs.YtpfemholpigdeaaDoor
namespace Go.Proofs.YtpfemholpigdeaaDoor
open Go.RowKit
section
variable {P : Program} {n : Nat} {w0 : World} {Q : Exit → Fm → List Res → Prop} {K : Fm → List Res → Prop} {F : Fm} {L : List Res} {m : Md} {ops : Array Oper} {rest : List Oper} {d : Option Nat} {ty : TypeId} {pos : String} {aft : Array Edge}
theorem OK_world {c : Code} (h : ∀ w, Hp w0.heap.size w0 w L → OK P n w0 Q c F L) : OK P n w0 Q c F L := OK.mk' fun w a hf hp => (h w hp).use w a hf hp
theorem OKx_ldH {t : TypeId} {z : Value} [T : TOne P t z] {x : Operand} {b k : Nat} {v : Value} (hx : rv n F x = .pointer (some ⟨b, k, none⟩)) (hc : ∀ w, Hp w0.heap.size w0 w L → w.cell? ⟨b, k, none⟩ = some v)
    (kk : OKx P n w0 m ops K rest (updo F d v) L) : OKx P n w0 m ops K (⟨d, .load t x, ty, pos, aft, none⟩ :: rest) F L :=
  OKx_still (fun w hp _ _ _ _ => run_load1 T hx (hc w hp) _ _ _ _) kk
theorem Sl.form {v : Value} {N : Nat} {f : Nat → Value} {C : World → Prop} (h : ∀ w, C w → Sl w v 1 N f) (w1 : World) (h1 : C w1) : ∃ a c, v = .slice a N c ∧ (0 < N → ∃ b o, a = some ⟨b, o, none⟩ ∧ ∀ w, C w → ∀ j, j < N → w.cell? ⟨b, o + j, none⟩ = some (f j)) := by
  obtain ⟨a, c, rfl, _⟩ := (h w1 h1).out
  refine ⟨a, c, rfl, fun h0 => ?_⟩
  obtain ⟨a2, c2, e, hc⟩ := (h w1 h1).out
  simp only [Value.slice.injEq] at e
  obtain ⟨rfl, _, rfl⟩ := e
  rcases hc with hc | ⟨b, o, rfl, _⟩
  · omega
  refine ⟨b, o, rfl, fun w hw j hj => ?_⟩
  obtain ⟨a2, c2, e, hc⟩ := (h w hw).out
  simp only [Value.slice.injEq] at e
  obtain ⟨rfl, _, rfl⟩ := e
  rcases hc with hc | ⟨b2, o2, e2, hc⟩
  · omega
  simp only [Option.some.injEq, Addr.mk.injEq] at e2
  obtain ⟨rfl, rfl, _⟩ := e2
  exact hc j (by omega)
end
end Go.Proofs.YtpfemholpigdeaaDoor
namespace Go.Proofs.YtpfemholpigdeaaDoor
open Go.RowKit
def CV (l : List (Int × Int)) (j : Nat) : Nat → Value
  | 0 => .int .i64 (l.getD j (0, 0)).1
  | _ => .int .i64 (l.getD j (0, 0)).2
def Chs (w : World) (v : Value) (l : List (Int × Int)) : Prop := Sl2 w v 2 l.length (CV l)
theorem Chs.below {w w' : World} {v : Value} {l : List (Int × Int)} (h : Chs w v l) (hb : Below w.heap.size w w') : Chs w' v l := Sl2.below h hb
end Go.Proofs.YtpfemholpigdeaaDoor
namespace Go.Proofs.YtpfemholpigdeaaDoor
open Go.RowKit
theorem Pt.below {w w' : World} {p : Value} {sz : Nat} {f : Nat → Value} (h : Pt w p sz f) (hb : Below w.heap.size w w') : Pt w' p sz f := by
  obtain ⟨b, o, rfl, hc⟩ := h
  exact ⟨b, o, rfl, fun j hj => (hb.cell (World.block_lt_of_cell? w _ (hc j hj))).trans (hc j hj)⟩
end Go.Proofs.YtpfemholpigdeaaDoor
namespace Go.Proofs.YtpfemholpigdeaaDoor
open Go.RowKit
def expL (own : List Int) (i : Nat) : List Int → List Int
  | [] => []
  | x :: xs => (if x = (i : Int) then own else [x]) ++ expL own i xs
theorem expL_snoc (own : List Int) (i : Nat) (x : Int) : ∀ xs, expL own i (xs ++ [x]) = expL own i xs ++ if x = (i : Int) then own else [x]
  | [] => by simp [expL]
  | y :: ys => by rw [List.cons_append, expL, expL, expL_snoc own i x ys, List.append_assoc]
theorem expL_step (own : List Int) (i : Nat) (xs : List Int) (j : Nat) (h : j < xs.length) : expL own i (xs.take (j + 1)) = expL own i (xs.take j) ++ if xs.getD j 0 = (i : Int) then own else [xs.getD j 0] := by
  rw [getD_lt _ _ _ h, ← expL_snoc, List.take_append_getElem h]
theorem expL_len (own : List Int) (i : Nat) (ho : own.length ≤ 64) : ∀ xs : List Int, (expL own i xs).length ≤ 64 * xs.length
  | [] => by simp [expL]
  | x :: xs => by
    have := expL_len own i ho xs
    rw [expL, List.length_append, List.length_cons]
    split
    · omega
    · simp only [List.length_singleton];omega
theorem expL_mem (own : List Int) (i : Nat) (y : Int) : ∀ xs : List Int, y ∈ expL own i xs ↔ (y ∈ xs ∧ y ≠ (i : Int)) ∨ ((i : Int) ∈ xs ∧ y ∈ own)
  | [] => by simp [expL]
  | x :: xs => by
    rw [expL, List.mem_append, expL_mem own i y xs]
    by_cases h : x = (i : Int)
    · subst h
      rw [if_pos rfl]
      simp only [List.mem_cons, true_or, true_and]
      constructor
      · rintro (h | ⟨h1, h2⟩ | ⟨_, h⟩)
        · exact .inr h
        · exact .inl ⟨.inr h1, h2⟩
        · exact .inr h
      · rintro (⟨rfl | h1, h2⟩ | h)
        · exact absurd rfl h2
        · exact .inr (.inl ⟨h1, h2⟩)
        · exact .inl h
    · rw [if_neg h]
      simp only [List.mem_cons, List.not_mem_nil, or_false]
      constructor
      · rintro (rfl | ⟨h1, h2⟩ | ⟨h1, h2⟩)
        · exact .inl ⟨.inl rfl, h⟩
        · exact .inl ⟨.inr h1, h2⟩
        · exact .inr ⟨.inr h1, h2⟩
      · rintro (⟨rfl | h1, h2⟩ | ⟨h1 | h1, h2⟩)
        · exact .inl rfl
        · exact .inr (.inl ⟨h1, h2⟩)
        · exact absurd h1.symm h
        · exact .inr (.inr ⟨h1, h2⟩)
def decI (i : Nat) (x : Int) : Int := if (i : Int) < x then x - 1 else x
def decK (i : Nat) (ys : List Int) (j : Nat) : List Int := (ys.take j).map (decI i) ++ ys.drop j
theorem decK_len (i : Nat) (ys : List Int) (j : Nat) : (decK i ys j).length = ys.length := by
  unfold decK
  rw [List.length_append, List.length_map, List.length_take, List.length_drop]
  omega
theorem decK_zero (i : Nat) (ys : List Int) : decK i ys 0 = ys := by simp [decK]
theorem decK_all (i : Nat) (ys : List Int) : decK i ys ys.length = ys.map (decI i) := by simp [decK]
theorem decK_at (i : Nat) (ys : List Int) (j : Nat) (h : j < ys.length) : (decK i ys j).getD j 0 = ys.getD j 0 := by
  unfold decK
  rw [List.getD_eq_getElem?_getD, List.getElem?_append_right (by simp;omega), List.getElem?_drop, ← List.getD_eq_getElem?_getD]
  congr 1
  simp;omega
theorem decK_step (i : Nat) (ys : List Int) (j : Nat) (h : j < ys.length) : decK i ys (j + 1) = (decK i ys j).set j (decI i (ys.getD j 0)) := by
  have e1 : (ys.take j).map (decI i) ++ ys.drop j = (ys.take j).map (decI i) ++ ys[j] :: ys.drop (j + 1) := by rw [← List.drop_eq_getElem_cons h]
  have hl : ((ys.take j).map (decI i)).length = j := by simp;omega
  unfold decK
  rw [e1, List.set_append_right _ _ (by omega), hl, Nat.sub_self, List.set_cons_zero, getD_lt _ _ _ h, ← List.take_append_getElem h, List.map_append, List.append_assoc]
  rfl
def remC (s : Stem) (i k : Nat) : List Int := Lib.compact (srtL (expL (s.par.getD i []) i (s.par.getD k [])))
def remL (s : Stem) (i k : Nat) : List Int := (remC s i k).map (decI i)
def kpt (i k : Nat) : List Nat := (List.range k).filter (fun j => decide (j ≠ i))
theorem kpt_step (i k : Nat) : kpt i (k + 1) = kpt i k ++ if k = i then [] else [k] := by
  unfold kpt
  rw [List.range_succ, List.filter_append]
  congr 1
  by_cases h : k = i
  · rw [if_pos h, List.filter_cons_of_neg (by simpa using h)]; rfl
  · rw [if_neg h, List.filter_cons_of_pos (by simpa using h)]; rfl
theorem kpt_len (i k : Nat) : (kpt i k).length ≤ k := Nat.le_trans (List.length_filter_le _ _) (by simp)
def remS (s : Stem) (i : Nat) : Stem := ⟨(kpt i s.names.length).map (fun k => s.names.getD k ByteArray.empty), (kpt i s.names.length).map (fun k => s.ext.getD k false), (kpt i s.names.length).map (remL s i)⟩
end Go.Proofs.YtpfemholpigdeaaDoor
