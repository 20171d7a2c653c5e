/-
  Part 10 of the proof: StemR, Ext, Lt, Gu, Te36, Spl, Pf36, Cpt, Pl38. No statement of the seat is proved here.
-/
import Derived.Test.YtpknpbeiifjmgaaDoorMHSa389
import Derived.Lib.IndexBytes
import Derived.Lib.IndexLaws
import Derived.Lib.CutLaws
import Derived.Lib.SplitLaws
import Derived.Lib.ItoaNum
namespace Go.Proofs.YtpknpbeiifjmgaaDoor
open Go.RowKit
theorem least {p : Nat → Prop} : ∀ j, p j → ∃ i, i ≤ j ∧ p i ∧ ∀ m, m < i → ¬ p m := by
  intro j
  induction j using Nat.strongRecOn with
  | ind j ih =>
    intro hj
    by_cases h : ∃ m, m < j ∧ p m
    · obtain ⟨m, hm, hpm⟩ := h
      obtain ⟨i, hi, h1, h2⟩ := ih m hm hpm
      exact ⟨i, by omega, h1, h2⟩
    · exact ⟨j, Nat.le_refl _, hj, fun m hm hpm => h ⟨m, hm, hpm⟩⟩
theorem place_ne (xs : List ByteArray) (k : Nat) (hk : k < xs.length) : (Lib.idxOfS xs xs[k] != (k : Int)) = Lib.containsS (xs.take k) xs[k] := by
  rw [Bool.eq_iff_iff, bne_iff_ne, Lib.containsS_iff]
  have hg : xs.getD k ByteArray.empty = xs[k] := by simp [hk]
  constructor
  · intro h
    by_cases hm : xs[k] ∈ xs.take k
    · exact hm
    · exfalso
      apply h
      have := Lib.idxOfS_hit xs xs.length k xs[k] hk (Nat.le_refl _) hg (fun j hj e => hm ?_)
      · rw [List.take_length] at this; exact this
      · have hj2 : j < xs.length := by omega
        rw [show xs.getD j ByteArray.empty = xs[j] from by simp [hj2]] at e
        rw [← e]
        exact List.mem_take_iff_getElem.2 ⟨j, by omega, rfl⟩
  · intro hm h
    obtain ⟨j, hj, e⟩ := List.mem_take_iff_getElem.1 hm
    -- the first place is at most j
    have hjk : j < k := by omega
    have hfirst : ∃ i, i ≤ j ∧ xs.getD i ByteArray.empty = xs[k] ∧ ∀ m, m < i → xs.getD m ByteArray.empty ≠ xs[k] := by
      exact least (p := fun i => xs.getD i ByteArray.empty = xs[k]) j (by rw [show xs.getD j ByteArray.empty = xs[j]'(by omega) from by simp [show j < xs.length by omega]]; exact e)
    obtain ⟨i, hi, h1, h2⟩ := hfirst
    have := Lib.idxOfS_hit xs xs.length i xs[k] (by omega) (Nat.le_refl _) h1 h2
    rw [List.take_length] at this
    omega
set_option maxRecDepth 100000 in
set_option maxHeartbeats 4000000 in
theorem rstCheck_any (v : Value) (s : Stem) (w : World) (h : Stm w v s) :
    Calls Tryd.prog 9 #[v] w fun e w' => e = .returned (.int .i64 (stCheck s)) ∧ Hp w.heap.size w w' [] := by
  obtain ⟨nv, ev, pv, rfl, hS, hE, hP⟩ := h
  obtain ⟨na, ncap, rfl, hnl, hN⟩ := hS.at
  obtain ⟨ea, ecap, rfl, hel, hE'⟩ := hE.at
  obtain ⟨pa, pcap, rfl, hpl, hP'⟩ := hP.at
  have HS := Lib.hid hS; clear hS
  have HN := Lib.hid hN; clear hN
  have HP := Lib.hid hP'; clear hP' hE' hE hP
  have hp0 := (Hp.refl w).box 26 #[.slice na s.names.length ncap, .slice ea s.ext.length ecap, .slice pa s.par.length pcap]
  by_cases h0 : s.names.length = 0
  · have e : stCheck s = 5 := by rw [stCheck, if_pos h0]
    have HE := Lib.hid e; clear e
    have hc : ((s.names.length : Int) == 0) = true := by rw [beq_iff_eq];omega
    have H0 := Lib.hid h0; clear h0
    go_enter Tryd.func9, Tryd.ntmps9
    go_wp2_with fail
    go_ret
    exact ⟨ret_int HE.out.symm, hp0.none⟩
  have hc : ((s.names.length : Int) == 0) = false := by rw [beq_eq_false_iff_ne];omega
  by_cases h64 : 64 < s.names.length
  · have e : stCheck s = 4 := by rw [stCheck, if_neg h0, if_pos h64]
    have HE := Lib.hid e; clear e
    go_enter Tryd.func9, Tryd.ntmps9
    go_wp2_with fail
    go_ret
    exact ⟨ret_int HE.out.symm, hp0.none⟩
  by_cases he : s.ext.length = s.names.length
  case neg =>
    have e : stCheck s = 9 := by rw [stCheck, if_neg h0, if_neg h64, if_pos (.inl he)]
    have HE := Lib.hid e; clear e
    have hc2 : ((s.ext.length : Int) != s.names.length) = true := by rw [bne_iff_ne];omega
    go_enter Tryd.func9, Tryd.ntmps9
    go_wp2_with fail
    go_ret
    exact ⟨ret_int HE.out.symm, hp0.none⟩
  by_cases hpp : s.par.length = s.names.length
  case neg =>
    have e : stCheck s = 9 := by rw [stCheck, if_neg h0, if_neg h64, if_pos (.inr hpp)]
    have HE := Lib.hid e; clear e
    have hc2 : ((s.ext.length : Int) != s.names.length) = false := by rw [bne_eq_false_iff_eq];omega
    have hc3 : ((s.par.length : Int) != s.names.length) = true := by rw [bne_iff_ne];omega
    have HH := Lib.hid he; clear he
    go_enter Tryd.func9, Tryd.ntmps9
    go_wp2_with fail
    go_ret
    exact ⟨ret_int HE.out.symm, hp0.none⟩
  have hc2 : ((s.ext.length : Int) != s.names.length) = false := by rw [bne_eq_false_iff_eq];omega
  have hc3 : ((s.par.length : Int) != s.names.length) = false := by rw [bne_eq_false_iff_eq];omega
  have HAT := Lib.hid (stCheck_at s · h0 h64 he hpp)
  have HOK := Lib.hid (stCheck_ok s h0 h64 he hpp)
  have HHE := Lib.hid he; clear he
  have HHP := Lib.hid hpp; clear hpp
  go_enter Tryd.func9, Tryd.ntmps9
  go_wp2_with fail
  go_loopw [4] (fun i wr => ∃ k : Nat, k ≤ s.names.length ∧ i = .int .i64 k ∧ Hid (firstErr (stAt s) k = 0) ∧
      Hp w.heap.size w wr [.box 26 w.heap.size [.slice na s.names.length ncap, .slice ea s.ext.length ecap, .slice pa s.par.length pcap]]) (fun i _ => s.names.length - (intOf i).toNat)
  case atStart => exact ⟨0, by omega, rfl, rfl, hp0⟩
  case round =>
    clear hp0
    obtain ⟨k, hk, rfl, hf, hp⟩ := hrel
    by_cases hlt : k < s.names.length
    · obtain ⟨bc, bf, bb, bl⟩ := hp.boxAt 0 rfl
      have b0 := bc 0
      have b2 := bc 2
      clear bc bf
      obtain ⟨hsz, nb, noff, rfl, hcell⟩ := HN.out k hlt
      have HNC := Lib.hid hcell
      have hcell := (hp.below.cell (World.block_lt_of_cell? w _ hcell)).trans hcell
      have hkp : k < s.par.length := by rw [HHP.out]; exact hlt
      obtain ⟨pb, poff, u, rfl, hpc, hpi⟩ := HP.out k hkp
      have HPC := Lib.hid hpc; clear hpc
      obtain ⟨ra, rcap, rfl, hrl, hr⟩ := hpi.at
      have HPI := Lib.hid hpi; clear hpi
      have HR := Lib.hid hr; clear hr
      have hst : stAt s k = if leafNm s.names[k] = false then 14 else if Lib.containsS (s.names.take k) s.names[k] = true then 7 else if rngB s.par[k] k = true then 2 else if incB s.par[k] = false then 10 else 0 := by
        rw [stAt]; simp [hlt, hkp]
      have HST := Lib.hid hst; clear hst
      have HPL := Lib.hid (place_ne s.names k hlt)
      generalize hnm : s.names[k] = nm at *
      generalize hpk : s.par[k] = pk at *
      have HX1 := Lib.hid hnm; clear hnm
      have HX2 := Lib.hid hpk; clear hpk
      go_wp2_with fail
      refine (named_any nm _ hsz).mono ?_
      rintro e w1 ⟨rfl, hq1⟩
      have hp1 : Hp w.heap.size w w1 _ := hp.call hq1
      clear hp hcell b0 b2
      cases hb : leafNm nm with
      | false =>
        go_wp2_with fail
        go_ret
        exact ⟨ret_int (HAT.out k hlt hf.out 14 (by rw [HST.out, if_pos hb]) (by decide)).symm, hp1.none⟩
      | true =>
        have HB := Lib.hid hb; clear hb
        obtain ⟨bc, bf, _, _⟩ := hp1.boxAt 0 rfl
        have b0 := bc 0
        have b2 := bc 2
        clear bc bf
        have hcell := (hp1.below.cell (World.block_lt_of_cell? w _ HNC.out)).trans HNC.out
        have hpc := (hp1.below.cell (World.block_lt_of_cell? w _ HPC.out)).trans HPC.out
        have hS1 := HS.out.below hp1.below
        have HS1 := Lib.hid hS1; clear hS1
        cases hb2 : Lib.containsS (s.names.take k) nm with
        | true =>
          have hpl' : (Lib.idxOfS s.names nm != (k : Int)) = true := HPL.out.trans hb2
          have HB2 := Lib.hid hb2; clear hb2
          go_wp2_with fail
          go_quiet ((go_at_call 20; exact Calls.quiet_of_same ((place_any _ _ _ _ (HS1.out.below (Quiet.below ⟨_, rfl⟩))).mono fun e w' ⟨h1, h2⟩ => ⟨h1, h2.symm⟩)))
          go_wp2_with fail
          go_ret
          exact ⟨ret_int (HAT.out k hlt hf.out 7 (by rw [HST.out, if_neg (by rw [HB.out]; simp), if_pos HB2.out]) (by decide)).symm, (hp1.drewN _).none⟩
        | false =>
          have hpl' : (Lib.idxOfS s.names nm != (k : Int)) = false := HPL.out.trans hb2
          have HB2 := Lib.hid hb2; clear hb2
          go_wp2_with fail
          go_quiet ((go_at_call 20; exact Calls.quiet_of_same ((place_any _ _ _ _ (HS1.out.below (Quiet.below ⟨_, rfl⟩))).mono fun e w' ⟨h1, h2⟩ => ⟨h1, h2.symm⟩)))
          go_wp2_with fail
          obtain ⟨wo, rfl⟩ : ∃ wo : World, wo = wr := ⟨_, rfl⟩
          go_loopw [5] (fun i wi => ∃ j : Nat, j ≤ pk.length ∧ i = .int .i64 j ∧ Hid (∀ m, m < j → (hm : m < pk.length) → (decide (pk[m] < 0) || decide ((k : Int) ≤ pk[m])) = false) ∧
              Hp w.heap.size w wi [.box 26 w.heap.size [.slice (some ⟨nb, noff, none⟩) s.names.length ncap, .slice ea s.ext.length ecap, .slice (some ⟨pb, poff, none⟩) s.par.length pcap]]) (fun i _ => pk.length - (intOf i).toNat)
          case atStart => exact ⟨0, by omega, rfl, fun m h1 => absurd h1 (by omega), hp1.drewN _⟩
          case round =>
            clear hp1 hcell hpc b0 b2
            obtain ⟨j, hjn, rfl, hno, hp3⟩ := hrel
            obtain ⟨bc, bcf, _, _⟩ := hp3.boxAt 0 rfl
            have c2 := bc 2
            clear bc bcf
            have pc := (hp3.below.cell (World.block_lt_of_cell? w _ HPC.out)).trans HPC.out
            by_cases hjl : j < pk.length
            · obtain ⟨rb, roff, rfl, r0⟩ := HR.out j hjl
              have r0 := (hp3.below.cell (World.block_lt_of_cell? w _ r0)).trans r0
              cases hbad : (decide (pk[j] < 0) || decide ((k : Int) ≤ pk[j])) with
              | true =>
                have hany : rngB pk k = true := List.any_eq_true.2 ⟨pk[j], List.getElem_mem hjl, hbad⟩
                have HANY := Lib.hid hany; clear hany
                generalize pk[j] = pj at *
                by_cases h1 : pj < 0
                · go_wp2_with fail
                  go_ret
                  exact ⟨ret_int (HAT.out k hlt hf.out 2 (by rw [HST.out, if_neg (by rw [HB.out]; simp), if_neg (by rw [HB2.out]; simp), if_pos HANY.out]) (by decide)).symm, hp3.none⟩
                · have h2 : (k : Int) ≤ pj := by simpa [h1] using hbad
                  clear hbad
                  go_wp2_with fail
                  go_ret
                  exact ⟨ret_int (HAT.out k hlt hf.out 2 (by rw [HST.out, if_neg (by rw [HB.out]; simp), if_neg (by rw [HB2.out]; simp), if_pos HANY.out]) (by decide)).symm, hp3.none⟩
              | false =>
                have HBAD := Lib.hid hbad
                have h12 : ¬ pk[j] < 0 ∧ ¬ (k : Int) ≤ pk[j] := by simpa using hbad
                obtain ⟨h1, h2⟩ := h12
                clear hbad
                go_wp2_with fail
                go_roundw
                case rel =>
                  refine ⟨j + 1, by omega, by go_num, fun m h1 hm => ?_, hp3⟩
                  rcases Nat.lt_or_ge m j with h3 | h3
                  · exact hno.out m h3 hm
                  · obtain rfl : m = j := by omega
                    exact HBAD.out
                case measure => simp [intOf];omega
            · have hb3 : rngB pk k = false := by
                rw [rngB, List.any_eq_false]
                intro x hx
                obtain ⟨m, hm, rfl⟩ := List.getElem_of_mem hx
                rw [hno.out m (by omega) hm]; simp
              have HB3 := Lib.hid hb3; clear hb3
              go_wp2_with fail
              go_loopw [6] (fun i wi => ∃ j : Nat, 1 ≤ j ∧ i = .int .i64 j ∧ Hid (∀ m, 1 ≤ m → m < j → (hm : m < pk.length) → pk[m - 1]'(by omega) < pk[m]) ∧
                  Hp w.heap.size w wi [.box 26 w.heap.size [.slice (some ⟨nb, noff, none⟩) s.names.length ncap, .slice ea s.ext.length ecap, .slice (some ⟨pb, poff, none⟩) s.par.length pcap]]) (fun i _ => pk.length - (intOf i).toNat)
              case atStart => exact ⟨1, by omega, rfl, fun m h1 h2 => absurd h2 (by omega), hp3⟩
              case round =>
                clear hp3 c2 pc
                obtain ⟨j, hj1, rfl, hinc, hp3⟩ := hrel
                obtain ⟨bc, bcf, _, _⟩ := hp3.boxAt 0 rfl
                have c2 := bc 2
                clear bc bcf
                have pc := (hp3.below.cell (World.block_lt_of_cell? w _ HPC.out)).trans HPC.out
                by_cases hjl : j < pk.length
                · obtain ⟨rb, roff, rfl, r0⟩ := HR.out j hjl
                  obtain ⟨rb', roff', hra, r1⟩ := HR.out (j - 1) (by omega)
                  simp only [Option.some.injEq, Addr.mk.injEq, and_true] at hra
                  obtain ⟨rfl, rfl⟩ := hra
                  have r0 := (hp3.below.cell (World.block_lt_of_cell? w _ r0)).trans r0
                  have r1 := (hp3.below.cell (World.block_lt_of_cell? w _ r1)).trans r1
                  by_cases hle : pk[j] ≤ pk[j - 1]
                  · have hno := incB_not pk j hj1 hjl hle
                    have HNO := Lib.hid hno; clear hno
                    generalize pk[j] = pj at *
                    generalize pk[j - 1] = pj1 at *
                    go_wp2_with fail
                    go_quiet (fail)
                    go_wp2_with fail
                    go_ret
                    exact ⟨ret_int (HAT.out k hlt hf.out 10 (by rw [HST.out, if_neg (by rw [HB.out]; simp), if_neg (by rw [HB2.out]; simp), if_neg (by rw [HB3.out]; simp), if_pos HNO.out]) (by decide)).symm, (hp3.drewN _).none⟩
                  · have HLT := Lib.hid (Int.not_le.1 hle)
                    go_wp2_with fail
                    go_quiet (fail)
                    go_wp2_with fail
                    go_roundw
                    case rel =>
                      refine ⟨j + 1, by omega, by go_num, fun m h1 h2 hm => ?_, hp3.drewN _⟩
                      rcases Nat.lt_or_ge m j with h3 | h3
                      · exact hinc.out m h1 h3 hm
                      · obtain rfl : m = j := by omega
                        exact HLT.out
                    case measure => simp [intOf];omega
                · have hinc2 := incB_of pk (fun m h1 hm => hinc.out m h1 (by omega) hm)
                  have HI2 := Lib.hid hinc2; clear hinc2
                  go_wp2_with fail
                  go_roundw
                  case rel =>
                    exact ⟨k + 1, by omega, by go_num, firstErr_step _ _ hf.out (by rw [HST.out, if_neg (by rw [HB.out]; simp), if_neg (by rw [HB2.out]; simp), if_neg (by rw [HB3.out]; simp), if_neg (by rw [HI2.out]; simp)]), hp3⟩
                  case measure => simp [intOf];omega
    · obtain rfl : k = s.names.length := by omega
      go_wp2_with fail
      go_ret
      exact ⟨ret_int (HOK.out hf.out).symm, hp.none⟩
end Go.Proofs.YtpknpbeiifjmgaaDoor
namespace Go.Proofs.YtpknpbeiifjmgaaDoor
open Go.RowKit
set_option maxRecDepth 100000 in
set_option maxHeartbeats 4000000 in
theorem stCheck_sat (v : Value) (s : Stem) (w : World) (h : Stm w v s) : SatV Tryd.prog 27 [v] w (.int .i64 (stCheck s)) :=
  Sat.lib ⟨_, _, Tryd.func27, by kernel_rfl, rfl⟩ fun w1 hb => (stCheck_any v s w1 (h.below hb)).mono fun e w' ⟨h1, h2⟩ => ⟨_, [], h1, h2, rfl, rfl⟩
set_option maxRecDepth 100000 in
set_option maxHeartbeats 4000000 in
theorem rstCheck_sat (v : Value) (s : Stem) (w : World) (h : Stm w v s) : SatV Tryd.prog 9 [v] w (.int .i64 (stCheck s)) :=
  Sat.lib ⟨_, _, Tryd.func9, by kernel_rfl, rfl⟩ fun w1 hb => (rstCheck_any v s w1 (h.below hb)).mono fun e w' ⟨h1, h2⟩ => ⟨_, [], h1, h2, rfl, rfl⟩
def chkI (s : Stem) (i : Int) : Int := if stCheck s ≠ 0 then 1 else if i < 0 ∨ (s.names.length : Int) ≤ i then 6 else 0
set_option maxRecDepth 100000 in
set_option maxHeartbeats 4000000 in
theorem chk36_sat (v : Value) (s : Stem) (i : Int) (w : World) (h : Stm w v s) : SatV Tryd.prog 15 [v, .int .i64 i] w (.int .i64 (chkI s i)) := by
  have hst := h
  obtain ⟨nv, ev, pv, rfl, hS, _, hP⟩ := h
  have hnv := hS.sl
  refine SatL.of 19 [4] Tryd.func15 (by kernel_rfl) (by kernel_rfl) rfl rfl rfl rfl ?_
  repeat' (first|(apply OK_seq)|(apply thenQ_n)|(apply OK_region)|(apply OKx_gc 27;exact rfl; refine OKx_callV (f := 27) rfl rfl rfl (fun w hp => stCheck_sat _ s w (hst.below hp.below)) ?_)|(apply OKx_nilK)|(apply OK_block)|(apply blockQ_n)|(apply blockQ_s)|(apply thenQ_e)|(apply blockQ_e;exact rfl)|(apply thenQ_r)|(apply blockQ_r)|(apply OK_condT;exact rfl)|(apply OK_condF;exact rfl)|(apply OK_skip)|(apply OK_exit)|(apply OK_ret)|(apply OKx_move;(conv=>lhs;whnf)<;>exact rfl)|(apply OKx_assign;(conv=>lhs;whnf)<;>exact rfl)|(apply OKx_ldB;exact rfl;(first | exact at0|exact at1|exact at2|exact at3|exact at4|exact at5|exact at6|exact at7);exact rfl)|(apply OKx_ldR;(conv=>lhs;whnf)<;>exact rfl;(with_reducible assumption))|(apply OKx_len;exact rfl)|(apply OKx_lenR;(conv=>lhs;whnf)<;>exact rfl;(with_reducible assumption))|(apply OKx_lenR2;(conv=>lhs;whnf)<;>exact rfl;(with_reducible assumption))|(apply OKx_lenO;(conv=>lhs;whnf)<;>exact rfl;(first | exact at0|exact at1|exact at2|exact at3|exact at4|exact at5|exact at6|exact at7))|(apply OKx_lss;exact rfl;exact rfl;all_goals (intro _; try (exfalso;omega)))|(apply OKx_geq;exact rfl;exact rfl;all_goals (intro _; try (exfalso;omega)))|(apply OKx_neq;exact rfl;exact rfl;all_goals (intro _; try (exfalso;omega)))|(apply OKx_fldO;exact rfl;exact rfl)|(apply OKx_fldR;(conv=>lhs;whnf)<;>exact rfl;(with_reducible assumption); decide;intro _ _)|(apply OKx_pickT;exact rfl;(conv=>lhs;whnf)<;>exact rfl)|(apply OKx_pickF;exact rfl;(conv=>lhs;whnf)<;>exact rfl)|(apply OKx_guardT;exact rfl;exact rfl)|(apply OKx_guardF;exact rfl;exact rfl)|(apply OKx_guardU;exact rfl;exact rfl)|(apply OKx_boxA;exact rfl;intro _)|(apply OKx_ldBA;exact rfl;(first | exact at0|exact at1|exact at2|exact at3|exact at4|exact at5|exact at6|exact at7);exact rfl)|(apply OKx_ldRA;(conv=>lhs;whnf)<;>exact rfl;(with_reducible assumption)))
  all_goals
    refine bodyQ_r1 (by ((conv=>lhs;whnf)<;>exact rfl)) ?_
    exact ⟨_, Ent.nil, int_eq (by unfold chkI; split <;> (try split) <;> omega), rfl⟩
def extE (s : Stem) (c p : Int) : Int :=
  if stCheck s ≠ 0 then 1 else if c < 0 ∨ (s.names.length : Int) ≤ c ∨ p < 0 ∨ (s.names.length : Int) ≤ p then 6 else if c ≤ p then 10 else if hasI (s.par.getD c.toNat []) p = true then 7 else 0
def extP (s : Stem) (c p : Int) : List Int := srtK (p :: s.par.getD c.toNat []) 64
def extS (s : Stem) (c p : Int) : Stem := ⟨s.names, s.ext, s.par.set c.toNat (extP s c p)⟩
theorem srt_eq (xs : List Int) (p : Int) (hx : xs.Pairwise (· < ·)) (h0 : ∀ x ∈ xs, 0 ≤ x ∧ x < 64) (hp : 0 ≤ p ∧ p < 64) (hn : p ∉ xs) : srtL (xs ++ [p]) = srtK (p :: xs) 64 := by
  refine asc_ext _ _ (asc_of_le _ (srtL_le _) ?_) (srtK_asc _ _) fun x => ?_
  · refine (srtL_perm _).nodup_iff.2 ?_
    rw [List.nodup_append]
    refine ⟨hx.imp (fun h => by omega), by simp, ?_⟩
    intro a ha b hb e
    subst e
    rw [List.mem_singleton] at hb
    subst hb
    exact hn ha
  · rw [srtL_mem, srtK_mem, List.mem_append, List.mem_singleton, List.mem_cons]
    constructor
    · rintro (h | rfl)
      · exact ⟨.inr h, h0 x h⟩
      · exact ⟨.inl rfl, hp⟩
    · rintro ⟨rfl | h, _⟩
      · exact .inr rfl
      · exact .inl h
set_option maxRecDepth 100000 in
set_option maxHeartbeats 4000000 in
theorem clone_row_sat (v : Value) (N : Nat) (vs : List Value) (w : World) (hl : vs.length = N) (h : Sl w v 1 N (fun j => vs.getD j undef)) (h1 : ∀ u ∈ vs, u.oneCell' = true) (h0 : 0 < N) (h8 : N ≤ 1000000) :
    Sat Tryd.prog 16 [v] w (fun u L => ∃ g c, u = .slice (some ⟨g, 0, none⟩) N c ∧ L = [.row 27 1 u N vs]) := by
  obtain ⟨_, ⟨a, cap, rfl, hc⟩, _⟩ := h
  rcases hc with hc | ⟨b, off, rfl, hc⟩
  · omega
  refine SatL.of 8 [2] Tryd.func16 (by kernel_rfl) (by kernel_rfl) rfl rfl rfl rfl ?_
  repeat' (first|(apply OK_seq)|(apply thenQ_n)|(apply OK_region)|(apply OKx_eqNilF; (focus exact rfl); (focus exact rfl))|(apply OKx_gb; refine OKx_append 0 (M := N) (ys := vs) rfl rfl rfl (by omega) (fun w1 hp j u hj => ?_) h1 (by omega) (by omega) h0 ?_; rotate_left; intro g c)|(apply OKx_nilK)|(apply OK_block)|(apply blockQ_n)|(apply blockQ_s)|(apply thenQ_e)|(apply blockQ_e;exact rfl)|(apply thenQ_r)|(apply blockQ_r)|(apply OK_condT;exact rfl)|(apply OK_condF;exact rfl)|(apply OK_skip)|(apply OK_exit)|(apply OK_ret)|(apply OKx_move;(conv=>lhs;whnf)<;>exact rfl)|(apply OKx_assign;(conv=>lhs;whnf)<;>exact rfl)|(apply OKx_eql;exact rfl;exact rfl;all_goals (intro _; try (exfalso;omega)))|(apply OKx_slit0;intro _))
  · refine bodyQ_r1 (by ((conv=>lhs;whnf)<;>exact rfl)) ?_
    refine ⟨_, Ent.refl _ _, g, c, by rw [Nat.zero_add], ?_⟩
    rw [Nat.zero_add]
    rfl
  · have hj2 : j < vs.length := (List.getElem?_eq_some_iff.1 hj).1
    have h2 := hc j (by omega)
    rw [hp.below.cell (World.block_lt_of_cell? w _ h2), h2]
    simp [hj]
theorem chkI_zero {s : Stem} {i : Int} (h : chkI s i = 0) : stCheck s = 0 ∧ 0 ≤ i ∧ i < s.names.length := by
  unfold chkI at h
  split at h
  · omega
  · split at h
    · omega
    · omega
theorem extE_chk {s : Stem} {c p e : Int} (k : Nat) (hk : k < 2) (h : ∀ j, j < k → chkI s ([c, p].getD j 0) = 0) (he : chkI s ([c, p].getD k 0) = e) (h0 : e ≠ 0) : extE s c p = e := by
  subst he
  have hk2 : k = 0 ∨ k = 1 := by omega
  rcases hk2 with rfl | rfl
  · simp only [List.getD_cons_zero] at *
    unfold chkI at *
    unfold extE
    split at h0
    · rename_i h1; rw [if_pos h1, if_pos h1]
    · rename_i h1
      split at h0
      · rename_i h2; rw [if_neg h1, if_neg h1, if_pos h2, if_pos (by omega)]
      · omega
  · have h1 := chkI_zero (h 0 (by omega))
    simp only [List.getD_cons_zero, List.getD_cons_succ] at *
    unfold chkI at *
    unfold extE
    have h2 : ¬ stCheck s ≠ 0 := by rw [h1.1]; simp
    rw [if_neg h2] at h0 ⊢
    rw [if_neg h2]
    split at h0
    · rename_i h3; rw [if_pos h3, if_pos (by omega)]
    · omega
theorem one_of_ints {w : World} {u : Value} {xs : List Int} (h : Ints w u xs) : u.oneCell' = true ∧ u.cells = #[u] := by
  obtain ⟨a, c, rfl, _⟩ := h.at
  exact ⟨rfl, rfl⟩
theorem extE_zero {s : Stem} {c p : Int} (h : extE s c p = 0) : stCheck s = 0 ∧ 0 ≤ p ∧ p < c ∧ c < s.names.length ∧ hasI (s.par.getD c.toNat []) p = false := by
  unfold extE at h
  split at h
  · omega
  split at h
  · omega
  split at h
  · omega
  split at h
  · omega
  · rename_i h1 h2 h3 h4
    exact ⟨by simpa using h1, by omega, by omega, by omega, by simpa using h4⟩
theorem extS_ok {s : Stem} {c p : Int} (h : extE s c p = 0) : okPar (extS s c p).par ∧ (extS s c p).par.length = s.names.length := by
  obtain ⟨h0, h1, h2, h3, _⟩ := extE_zero h
  obtain ⟨_, _, _, hpl, _⟩ := stCheck_len s h0
  have hok := stCheck_okPar s h0
  refine ⟨fun k hk x hx => ?_, by rw [extS, List.length_set]; exact hpl⟩
  simp only [extS] at hk hx
  rw [List.length_set] at hk
  by_cases e : c.toNat = k
  · subst e
    rw [List.getElem_set_self] at hx
    obtain ⟨hx, _⟩ := (srtK_mem _ _ _).1 hx
    rcases List.mem_cons.1 hx with rfl | hx
    · omega
    · rw [getD_lt _ _ _ hk] at hx
      exact hok _ hk x hx
  · rw [List.getElem_set_ne e] at hx
    exact hok k hk x hx
theorem firstErr_all (f : Nat → Int) : ∀ n, (∀ k, k < n → f k = 0) → firstErr f n = 0
  | 0, _ => rfl
  | n + 1, h => firstErr_step f n (firstErr_all f n (fun k hk => h k (by omega))) (h n (by omega))
theorem extS_valid {s : Stem} {c p : Int} (h : extE s c p = 0) : stCheck (extS s c p) = 0 := by
  obtain ⟨h0, _⟩ := extE_zero h
  obtain ⟨hn0, hn64, hel, hpl, hf⟩ := stCheck_len s h0
  obtain ⟨hok, hpl'⟩ := extS_ok h
  have hinc := stCheck_inc s h0
  unfold stCheck
  have e1 : (extS s c p).names = s.names := rfl
  have e2 : (extS s c p).ext = s.ext := rfl
  rw [e1, if_neg hn0, if_neg (by omega), if_neg (by rw [e2, hpl'];omega)]
  refine firstErr_all _ _ fun k hk => ?_
  have hz := firstErr_zero _ _ hf k hk
  unfold stAt at hz ⊢
  rw [e1]
  split at hz
  · omega
  · rename_i h1
    rw [if_neg h1]
    split at hz
    · omega
    · rename_i h2
      rw [if_neg h2]
      have hr : rngB ((extS s c p).par.getD k []) k = false := by
        rw [rngB, List.any_eq_false]
        intro x hx
        rw [getD_lt _ _ _ (by omega)] at hx
        have := hok k (by omega) x hx
        simp
        omega
      have hi : incB ((extS s c p).par.getD k []) = true := by
        unfold incB
        rw [decide_eq_true_eq]
        simp only [extS]
        by_cases e : c.toNat = k
        · subst e
          rw [getD_lt _ _ _ (by rw [List.length_set];omega), List.getElem_set_self]
          exact srtK_asc _ _
        · have := hinc k (by omega)
          rw [List.getD_eq_getElem?_getD, List.getElem?_set_ne e, ← List.getD_eq_getElem?_getD]
          exact this
      rw [if_neg (by rw [hr]; simp), if_neg (by rw [hi]; simp)]
end Go.Proofs.YtpknpbeiifjmgaaDoor
namespace Go.Proofs.YtpknpbeiifjmgaaDoor
open Go.RowKit
section
variable {P : Program} {n : Nat} {w0 : World} {K : Fm → List Res → Prop} {F : Fm} {L : List Res} {m : Md} {Lw : List Res} {ops : Array Oper} {rest : List Oper}
  {d : Option Nat} {ty : TypeId} {pos : String} {aft : Array Edge}
theorem max2_run {k : IntKind} {a b : Int} {w : World} : (Builtin.max2 (.int k a) (.int k b)).run P w = .ok (.int k (max a b)) w := by
  have e : (if b > a then b else a) = max a b := by split <;> omega
  simp [Builtin.max2, e]
theorem OKx_max5 {x1 x2 x3 x4 x5 : Operand} {tt : Array TypeId} {k : IntKind} {a b c e f r : Int} (h1 : rv n F x1 = .int k a) (h2 : rv n F x2 = .int k b) (h3 : rv n F x3 = .int k c) (h4 : rv n F x4 = .int k e) (h5 : rv n F x5 = .int k f) (hr : max (max (max (max a b) c) e) f = r)
    (kk : OKx P n w0 m ops K rest (updo F d (.int k r)) L) : OKx P n w0 m ops K (⟨d, .call { callee := .builtin .max, args := #[x1, x2, x3, x4, x5], argTypes := tt }, ty, pos, aft, none⟩ :: rest) F L := by
  subst hr
  refine OKx_still (fun w _ _ _ _ _ => ?_) kk
  simp [execOp, resolve, invoke, builtin, h1, h2, h3, h4, h5, Builtin.max_, max2_run, Sem.run_bind, Result.andThen]
end
section
variable {B : Nat} {w0 w : World} {L : List Res}
def strs (xs : List ByteArray) : List Value := xs.map Value.string
theorem Hp.strs (h : Hp B w0 w L) (i : Nat) {e : TypeId} {n : Nat} {v : Value} {xs : List ByteArray} (hi : L[i]? = some (.row e 1 v n (strs xs))) (hn : n ≤ 140737488355328) (hs : ∀ s ∈ xs, s.size ≤ 140737488355328) : Strs w v xs := by
  have ho : w.ownsRow B e 1 v n (Go.Proofs.YtpknpbeiifjmgaaDoor.strs xs) := h.ok _ (List.mem_of_getElem? hi)
  have hl := ho.1
  simp only [Go.Proofs.YtpknpbeiifjmgaaDoor.strs, List.length_map, Nat.mul_one] at hl
  subst hl
  refine ⟨h.sl i hi hn fun j hj => ?_, hs⟩
  have hj' : j < xs.length := by omega
  simp [Go.Proofs.YtpknpbeiifjmgaaDoor.strs, hj']
theorem Hp.tabs (h : Hp B w0 w L) (i : Nat) {e : TypeId} {n : Nat} {v : Value} {vs : List Value} {xs : List (List Int)} (hi : L[i]? = some (.row e 1 v n vs)) (hn : n ≤ 140737488355328) (hl : xs.length = n) (hv : ∀ j, j < n → Ints w (vs.getD j undef) (xs.getD j [])) : Tabs w v xs := by
  have ho : w.ownsRow B e 1 v n vs := h.ok _ (List.mem_of_getElem? hi)
  have hvl := ho.1
  rw [Nat.mul_one] at hvl
  subst hl
  refine ⟨vs, h.sl i hi hn fun j hj => ?_, hvl, fun j hj => ?_⟩
  · have hj' : j < vs.length := by omega
    simp [hj']
  · have := hv j hj
    rwa [getD_lt _ _ _ hj] at this
theorem Hp.stm (h : Hp B w0 w L) (i j k : Nat) {e1 e2 e3 : TypeId} {n1 n2 n3 : Nat} {nv ev pv : Value} {ns : List ByteArray} {es : List Bool} {vs : List Value} {ps : List (List Int)} (hi : L[i]? = some (.row e1 1 nv n1 (Go.Proofs.YtpknpbeiifjmgaaDoor.strs ns))) (hj : L[j]? = some (.row e2 1 ev n2 (Go.Proofs.YtpknpbeiifjmgaaDoor.bools es))) (hk : L[k]? = some (.row e3 1 pv n3 vs))
    (b1 : n1 ≤ 1000) (b2 : n2 ≤ 1000) (b3 : n3 ≤ 1000) (hs : (ns.all fun s => decide (s.size ≤ 1000)) = true) (hl : ps.length = n3) (hv : ∀ j, j < n3 → Ints w (vs.getD j undef) (ps.getD j [])) : Stm w (.agg #[nv, ev, pv]) ⟨ns, es, ps⟩ :=
  ⟨nv, ev, pv, rfl, h.strs i hi (by omega) (fun s hm => by have := List.all_eq_true.1 hs s hm; have := of_decide_eq_true this;omega), h.bools j hj (by omega), h.tabs k hk (by omega) hl hv⟩
end
end Go.Proofs.YtpknpbeiifjmgaaDoor
namespace Go.Proofs.YtpknpbeiifjmgaaDoor
open Go.RowKit
theorem Fr.yieldU {n : Nat} {F : Fm} {ops : Array Oper} {a : Act} (hf : Fr n a F) {j t : Nat} (hj : (ops[j]?).bind (·.dst) = some t) (hb : rv n F (.tmp t) = undef) : yielded ops a.tmps j = none := by
  have he := hf.eval
  have h1 : a.eval (.tmp t) = undef := by rw [he]; exact hb
  unfold yielded
  rw [hj]
  simp only [Option.bind_some]
  simp only [Act.eval, Frame.eval] at h1
  split
  · rename_i b h2
    simp [h2, undef] at h1
  · rfl
theorem OKx_guardU {P : Program} {n : Nat} {w0 : World} {K : Fm → List Res → Prop} {F : Fm} {L : List Res} {m : Md} {ops : Array Oper} {rest : List Oper} {d : Option Nat} {o : Op} {ty : TypeId} {pos : String} {aft : Array Edge} {j t : Nat} {b : Bool} (hj : (ops[j]?).bind (·.dst) = some t) (hb : rv n F (.tmp t) = undef)
    (h : OKx P n w0 m ops K rest (updo F d undef) L) : OKx P n w0 m ops K (⟨d, o, ty, pos, aft, some (j, b)⟩ :: rest) F L := by
  have key : ∀ a : Act, Fr n a F → Region.wanted (⟨d, o, ty, pos, aft, some (j, b)⟩ : Oper) (yielded ops a.tmps) = false := by
    intro a hf
    simp only [Region.wanted, Fr.yieldU hf hj hb]
    cases b <;> rfl
  unfold OKx at h ⊢
  cases m with
  | seq Lw =>
    intro w a hf hp
    have h1 := h w _ (hf.put d undef) hp
    refine ⟨h1.cls, ?_⟩
    rw [key a hf]
    exact h1
  | quiet =>
    intro a hf
    unfold wpQuiet
    rw [key a hf]
    exact h _ (hf.put d undef)
  | pure =>
    intro a hf
    unfold wpPure
    rw [key a hf]
    exact h _ (hf.put d undef)
end Go.Proofs.YtpknpbeiifjmgaaDoor
namespace Go.Proofs.YtpknpbeiifjmgaaDoor
open Go.RowKit
structure Tre where
  par : List Int
  names : List ByteArray
def Tri (w : World) (v : Value) (t : Tre) : Prop := ∃ pv nv, v = .agg #[pv, nv] ∧ Ints w pv t.par ∧ Strs w nv t.names
end Go.Proofs.YtpknpbeiifjmgaaDoor
namespace Go.Proofs.YtpknpbeiifjmgaaDoor
open Go.RowKit
def bOf (l : List UInt8) : ByteArray := ⟨l.toArray⟩
theorem data_bOf (l : List UInt8) : (bOf l).data.toList = l := rfl
theorem bOf_size (l : List UInt8) : (bOf l).size = l.length := rfl
end Go.Proofs.YtpknpbeiifjmgaaDoor
namespace Go.Proofs.YtpknpbeiifjmgaaDoor
open Go.RowKit
def inK (par : List Int) (i k : Nat) : Bool := anyN (fun j => decide (par.getD j 0 = (i : Int))) k
def inn (t : Tre) (i : Nat) : Bool := inK t.par i t.par.length
def parB (par : List Int) (i : Nat) : Prop := if i = 0 then par.getD 0 0 ≠ -1 else par.getD i 0 < 0 ∨ (i : Int) ≤ par.getD i 0
instance (par : List Int) (i : Nat) : Decidable (parB par i) := by unfold parB; infer_instance
def parE (t : Tre) (i : Nat) : Int := if parB t.par i then 2 else 0
def namE (t : Tre) (i : Nat) : Int :=
  if inn t i = true then (if t.names.getD i ByteArray.empty = ByteArray.empty then 0 else 14)
  else if leafNm (t.names.getD i ByteArray.empty) = false then 14
  else if Lib.containsS (t.names.take i) (t.names.getD i ByteArray.empty) = true then 7 else 0
def treC (t : Tre) : Int :=
  if t.par.length = 0 then 5 else if 64 < t.par.length then 4 else if t.names.length ≠ t.par.length then 9
  else if firstErr (parE t) t.par.length ≠ 0 then firstErr (parE t) t.par.length else firstErr (namE t) t.par.length
theorem inK_step (par : List Int) (i k : Nat) : inK par i (k + 1) = (inK par i k || decide (par.getD k 0 = (i : Int))) := by
  unfold inK anyN
  rw [List.range_succ, List.any_append]
  simp
theorem treC_len {t : Tre} (h : treC t = 0) : 0 < t.par.length ∧ t.par.length ≤ 64 ∧ t.names.length = t.par.length ∧ (∀ i, i < t.par.length → ¬ parB t.par i) ∧ ∀ i, i < t.par.length → namE t i = 0 := by
  unfold treC at h
  split at h
  · omega
  split at h
  · omega
  split at h
  · omega
  split at h
  · omega
  · rename_i h1 h2 h3 h4
    refine ⟨by omega, by omega, by omega, fun i hi hb => ?_, firstErr_zero _ _ h⟩
    have := firstErr_zero _ _ (by omega : firstErr (parE t) t.par.length = 0) i hi
    unfold parE at this
    rw [if_pos hb] at this
    omega
def itS (i : Nat) : ByteArray := bOf (120 :: Lib.decDigits i)
def treW (t : Tre) (i : Nat) : ByteArray := if t.names.getD i ByteArray.empty = ByteArray.empty then itS i else t.names.getD i ByteArray.empty
def ftN (t : Tre) (k : Nat) : List ByteArray := (List.range k).map (treW t)
def ftX (t : Tre) (k : Nat) : List Bool := (List.range k).map fun i => decide (t.names.getD i ByteArray.empty ≠ ByteArray.empty)
def ftP (t : Tre) (k : Nat) : List (List Int) := (List.range k).map fun i => if i = 0 then [] else [t.par.getD i 0]
def ftS (t : Tre) : Stem := ⟨ftN t t.par.length, ftX t t.par.length, ftP t t.par.length⟩
def dupE (t : Tre) (i : Nat) : Int := if Lib.containsS ((ftN t t.par.length).take i) ((ftN t t.par.length).getD i ByteArray.empty) = true then 7 else 0
def ftE (t : Tre) : Int := if treC t ≠ 0 then 1 else firstErr (dupE t) t.par.length
theorem ftN_step (t : Tre) (k : Nat) : ftN t (k + 1) = ftN t k ++ [treW t k] := by
  unfold ftN; rw [List.range_succ, List.map_append]; rfl
theorem ftX_step (t : Tre) (k : Nat) : ftX t (k + 1) = ftX t k ++ [decide (t.names.getD k ByteArray.empty ≠ ByteArray.empty)] := by
  unfold ftX; rw [List.range_succ, List.map_append]; rfl
theorem ftP_step (t : Tre) (k : Nat) : ftP t (k + 1) = ftP t k ++ [if k = 0 then [] else [t.par.getD k 0]] := by
  unfold ftP; rw [List.range_succ, List.map_append]; rfl
theorem ftN_len (t : Tre) (k : Nat) : (ftN t k).length = k := by simp [ftN]
theorem ftP_len (t : Tre) (k : Nat) : (ftP t k).length = k := by simp [ftP]
end Go.Proofs.YtpknpbeiifjmgaaDoor
namespace Go.Proofs.YtpknpbeiifjmgaaDoor
open Go.RowKit
theorem arr_get (xs : List Int) (j : Nat) (h : j < xs.length) : xs.toArray[j]! = xs[j] := by simp [h]
theorem compact_mem (xs : List Int) (x : Int) : x ∈ Lib.compact xs ↔ x ∈ xs := by
  unfold Lib.compact Lib.compactUpTo
  simp only [List.mem_map, List.mem_filter, List.mem_range]
  constructor
  · rintro ⟨j, ⟨h1, _⟩, rfl⟩
    rw [arr_get xs j h1]
    exact List.getElem_mem h1
  · intro hx
    obtain ⟨j, hj, rfl⟩ := List.getElem_of_mem hx
    clear hx
    induction j with
    | zero => exact ⟨0, ⟨hj, by simp [Lib.keeps]⟩, arr_get xs 0 hj⟩
    | succ j ih =>
      by_cases he : xs[j + 1] = xs[j]
      · rw [he]; exact ih (by omega)
      · refine ⟨j + 1, ⟨hj, ?_⟩, arr_get xs _ hj⟩
        apply Lib.keeps_pos
        rw [arr_get xs _ hj, Nat.add_sub_cancel, arr_get xs j (by omega)]
        exact he
theorem compact_asc (xs : List Int) (h : xs.Pairwise (· ≤ ·)) : (Lib.compact xs).Pairwise (· < ·) := by
  unfold Lib.compact Lib.compactUpTo
  rw [List.pairwise_map]
  refine (List.Pairwise.filter (Lib.keeps xs.toArray) List.pairwise_lt_range).imp_of_mem ?_
  intro i j hi hj hij
  simp only [List.mem_filter, List.mem_range] at hi hj
  have hk : xs.toArray[j]! ≠ xs.toArray[j - 1]! := by
    have := hj.2
    simp only [Lib.keeps, decide_eq_true_eq] at this
    rcases this with h0 | h0
    · omega
    · exact h0
  rw [arr_get xs j hj.1, arr_get xs (j - 1) (by omega)] at hk
  rw [arr_get xs i hi.1, arr_get xs j hj.1]
  have hp := List.pairwise_iff_getElem.1 h
  have h1 := hp (j - 1) j (by omega) hj.1 (by omega)
  rcases Nat.lt_or_ge i (j - 1) with h2 | h2
  · have := hp i (j - 1) hi.1 (by omega) h2
    omega
  · have : i = j - 1 := by omega
    subst this
    omega
theorem compact_len (xs : List Int) : (Lib.compact xs).length ≤ xs.length := by
  unfold Lib.compact Lib.compactUpTo
  rw [List.length_map]
  exact Nat.le_trans (List.length_filter_le _ _) (by simp)
set_option maxRecDepth 100000 in
set_option maxHeartbeats 4000000 in
theorem compact_int_sat (g cap n : Nat) (xs : List Int) (w0 : World) (L : List Res) (i : Nat) (hxn : xs.length = n) (hi : L[i]? = some (.row 3 1 (.slice (some ⟨g, 0, none⟩) n cap) n (ints xs))) (hx : n ≤ 1000000) :
    SatL Tryd.prog 83 [.slice (some ⟨g, 0, none⟩) n cap] w0 L (fun u L' => ∃ k, k = (Lib.compact xs).length ∧ u = .slice (some ⟨g, 0, none⟩) k cap ∧ L' = L.set i (.row 3 1 (.slice (some ⟨g, 0, none⟩) k cap) k (ints (Lib.compact xs)))) := by
  subst hxn
  refine ⟨⟨_, _, Tryd.func83, by kernel_rfl, rfl⟩, fun w hp => ?_⟩
  have ho : w.ownsRow w0.heap.size 3 1 (.slice (some ⟨g, 0, none⟩) xs.length cap) xs.length (ints xs) := hp.ok _ (List.mem_of_getElem? hi)
  have hlt := (ho.lt g rfl).2
  rcases ho.2 with ⟨h0, _⟩ | ⟨g', cap', cur, hv, hg, hb, hn, hcap, hsz, htake⟩
  · cases h0
  cases hv
  rw [Nat.mul_one] at htake
  have hcl := compact_len xs
  let ts := Lib.compact xs ++ List.replicate (xs.length - (Lib.compact xs).length) 0
  have htl : ts.length = xs.length := by simp [ts];omega
  refine (Tryd.slices_Compact_int g 0 cap xs w (Go.holds_of_blockI hb htake) (by omega) hn).mono ?_
  rintro e w' ⟨rfl, q, rfl⟩
  have e0 : ∀ W : World, Go.Sort.grow W #[] = W := fun W => Go.Sort.grow_empty W
  rw [← e0 (Go.Sort.putRow _ _ _ _ _)]
  have h1 : Hp w0.heap.size w0 (Go.Sort.grow (Go.Sort.putRow (Value.int .i64) (Go.Sort.ahead w q) g 0 ts.toArray) #[]) (L.set i (.row 3 1 (.slice (some ⟨g, 0, none⟩) xs.length cap) xs.length (ints ts))) :=
    hp.turn hi (r' := .row 3 1 (.slice (some ⟨g, 0, none⟩) xs.length cap) xs.length (ints ts)) (Go.grownBy_sortedI _) (Go.ownsRow_sortedI (w := w) (n := q) (os := #[]) (ts := ts) htl hg hb hn hcap hsz) (fun k hk => .inl hk)
  have hil : i < L.length := (List.getElem?_eq_some_iff.1 hi).1
  have hi2 : (L.set i (.row 3 1 (.slice (some ⟨g, 0, none⟩) xs.length cap) xs.length (ints ts)))[i]? = some (.row 3 1 (.slice (some ⟨g, 0, none⟩) xs.length cap) xs.length (ints ts)) := by
    rw [List.getElem?_set, if_pos rfl, if_pos hil]
  have h2 := h1.cut i hi2 (Lib.compact xs).length hcl
  rw [List.set_set] at h2
  have h3 : (ints ts).take ((Lib.compact xs).length * 1) = ints (Lib.compact xs) := by
    rw [Nat.mul_one]
    simp [ts, ints]
  rw [h3] at h2
  exact ⟨_, _, rfl, h2, _, rfl, rfl, rfl⟩
end Go.Proofs.YtpknpbeiifjmgaaDoor
namespace Go.Proofs.YtpknpbeiifjmgaaDoor
def occ (st : List Int) : List Int := if srtK st 16 = [] then [0] else srtK st 16
theorem occ_ne (st : List Int) : occ st ≠ [] := by
  unfold occ
  split
  · simp
  · assumption
theorem occ_pos (st : List Int) : 0 < (occ st).length := List.length_pos_iff.2 (occ_ne st)
theorem occ_le (st : List Int) : (occ st).length ≤ 16 := by
  unfold occ
  split
  · simp
  · exact srtK_len _ _
def unk : List Int → Nat
  | [] => 0
  | x :: st => (if x < 0 then 1 else 0) + unk st
def many (st : List Int) : Bool := decide (65536 < (occ st).length ^ unk st)
def asgs (vs : List Int) : List Int → List (List Int)
  | [] => [[]]
  | x :: st => if x < 0 then vs.flatMap (fun v => (asgs vs st).map (v :: ·)) else (asgs vs st).map (x :: ·)
theorem flat_len {α β : Type} (f : α → List β) (c : Nat) : ∀ l : List α, (∀ x ∈ l, (f x).length = c) → (l.flatMap f).length = l.length * c
  | [], _ => by simp
  | x :: l, h => by rw [List.flatMap_cons, List.length_append, h x (by simp), flat_len f c l (fun y hy => h y (by simp [hy])), List.length_cons, Nat.succ_mul];omega
theorem asgs_len (vs st : List Int) : (asgs vs st).length = vs.length ^ unk st := by
  induction st with
  | nil => rfl
  | cons x st ih =>
    unfold asgs unk
    split
    · rw [flat_len _ (vs.length ^ unk st) vs (fun v _ => by rw [List.length_map, ih]), Nat.pow_add, Nat.pow_one]
    · simp [ih]
theorem asgs_known (vs : List Int) : ∀ st : List Int, (∀ x ∈ st, 0 ≤ x) → asgs vs st = [st] := by
  intro st
  induction st with
  | nil => intro _; rfl
  | cons x st ih =>
    intro h
    unfold asgs
    rw [if_neg (by have := h x (by simp);omega), ih (fun y hy => h y (by simp [hy]))]
    rfl
def chgB (par : List (List Int)) (all : List Int) (i : Nat) : Bool := !(par.getD i []).isEmpty && !((par.getD i []).any fun p => all.getD p.toNat 0 == all.getD i 0)
def costN (par : List (List Int)) (all : List Int) : Nat := ((List.range par.length).filter (chgB par all)).length
def bstep (f : List Int → Nat) (o : List Int × Int) (a : List Int) : List Int × Int := if o.2 < 0 ∨ (f a : Int) < o.2 then (a, (f a : Int)) else o
def bestA (f : List Int → Nat) (l : List (List Int)) : List Int × Int := l.foldl (bstep f) ([], -1)
theorem bestA_snoc (f : List Int → Nat) (l : List (List Int)) (a : List Int) : bestA f (l ++ [a]) = bstep f (bestA f l) a := by
  unfold bestA; rw [List.foldl_append]; rfl
theorem bstep_zero (f : List Int → Nat) (o : List Int × Int) (h : o.2 = 0) (a : List Int) : bstep f o a = o := by
  unfold bstep; rw [if_neg (by omega)]
theorem fold_zero (f : List Int → Nat) (l : List (List Int)) (o : List Int × Int) (h : o.2 = 0) : l.foldl (bstep f) o = o := by
  induction l with
  | nil => rfl
  | cons a l ih => rw [List.foldl_cons, bstep_zero f o h a]; exact ih
theorem bestA_zero (f : List Int → Nat) (l l' : List (List Int)) (h : (bestA f l).2 = 0) : bestA f (l ++ l') = bestA f l := by
  unfold bestA at *
  rw [List.foldl_append]
  exact fold_zero f l' _ h
theorem bestA_spec (f : List Int → Nat) (l : List (List Int)) (hl : l ≠ []) : (bestA f l).1 ∈ l ∧ (bestA f l).2 = (f (bestA f l).1 : Int) ∧ ∀ b ∈ l, (bestA f l).2 ≤ (f b : Int) := by
  have key : ∀ l : List (List Int), (l = [] ∧ (bestA f l).2 = -1) ∨ ((bestA f l).1 ∈ l ∧ (bestA f l).2 = (f (bestA f l).1 : Int) ∧ ∀ b ∈ l, (bestA f l).2 ≤ (f b : Int)) := by
    intro l
    rw [← List.reverse_reverse l]
    generalize l.reverse = m
    induction m with
    | nil => exact .inl ⟨rfl, rfl⟩
    | cons a m ih =>
      right
      rw [List.reverse_cons, bestA_snoc]
      unfold bstep
      rcases ih with ⟨h1, h2⟩ | ⟨h1, h2, h3⟩
      · rw [if_pos (by omega), h1]
        exact ⟨by simp, rfl, fun b hb => by simp at hb; rw [hb]; exact Int.le_refl _⟩
      · by_cases hc : (bestA f m.reverse).2 < 0 ∨ (f a : Int) < (bestA f m.reverse).2
        · rw [if_pos hc]
          refine ⟨by simp, rfl, fun b hb => ?_⟩
          rcases List.mem_append.1 hb with hb | hb
          · have := h3 b hb
            have h4 : (f a : Int) < (bestA f m.reverse).2 := by omega
            show (f a : Int) ≤ f b
            omega
          · simp at hb; rw [hb]; exact Int.le_refl _
        · rw [if_neg hc]
          refine ⟨List.mem_append_left _ h1, h2, fun b hb => ?_⟩
          rcases List.mem_append.1 hb with hb | hb
          · exact h3 b hb
          · simp at hb; rw [hb];omega
  rcases key l with ⟨h, _⟩ | h
  · exact absurd h hl
  · exact h
theorem asgs_ne (vs : List Int) (hv : 0 < vs.length) (st : List Int) : asgs vs st ≠ [] := by
  intro h
  have h1 := asgs_len vs st
  rw [h] at h1
  have := Nat.pow_pos (n := unk st) hv
  simp at h1
  omega
theorem unk_app (a b : List Int) : unk (a ++ b) = unk a + unk b := by
  induction a with
  | nil => simp [unk]
  | cons x a ih => rw [List.cons_append, unk, unk, ih];omega
theorem unk_take (st : List Int) (k : Nat) : unk (st.take k) ≤ unk st := by
  have := unk_app (st.take k) (st.drop k)
  rw [List.take_append_drop] at this
  omega
theorem unk_step (st : List Int) (k : Nat) (h : k < st.length) : unk (st.take (k + 1)) = unk (st.take k) + if st.getD k 0 < 0 then 1 else 0 := by
  rw [List.take_succ_eq_append_getElem h, unk_app, getD_lt _ _ _ h]
  simp [unk]
theorem many_hit (st : List Int) (k : Nat) (h : 65536 < (occ st).length ^ unk (st.take k)) : many st = true := by
  unfold many
  have := Nat.pow_le_pow_right (occ_pos st) (unk_take st k)
  exact decide_eq_true (by omega)
theorem many_end (st : List Int) (h : (occ st).length ^ unk st ≤ 65536) : many st = false := decide_eq_false (by omega)
end Go.Proofs.YtpknpbeiifjmgaaDoor
