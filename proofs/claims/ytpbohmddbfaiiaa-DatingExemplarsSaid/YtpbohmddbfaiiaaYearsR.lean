/-
  apographref37.years computes the earliest and the latest years. No statement of the seat is proved here.
-/
import Derived.Test.YtpbohmddbfaiiaaYearsQ
import Derived.BigRegion
namespace Go.Proofs.Ytpbohmddbfaiiaa
open Go.RowKit

def YrsR (n : Nat) (b : Bool) (xs ys : List Int) (w : World) (e : Ending) (w' : World) : Prop :=
  ∃ g1 c1 g2 c2, e = .returned (.tuple #[.slice (some ⟨g1, 0, none⟩) n c1, .slice (some ⟨g2, 0, none⟩) n c2, .bool b]) ∧
    Hp w.heap.size w w' [.row 3 1 (.slice (some ⟨g1, 0, none⟩) n c1) n (ints xs), .row 3 1 (.slice (some ⟨g2, 0, none⟩) n c2) n (ints ys)]

set_option maxRecDepth 100000 in
set_option maxHeartbeats 16000000 in
theorem ryears_any (ev pv dv : Value) (na : Option Addr) (n ncap : Nat) (par : List (List Int)) (ds : List Dt) (w : World) (hP : Tabs w pv par) (hd : Dats w dv ds) (hn : par.length = n) (hn1 : 0 < n) (hn64 : n ≤ 64) (hok : okPar par) (hds : ∀ d ∈ ds, 0 ≤ d.node ∧ d.node < n) :
    Calls Try.prog 55 #[.agg #[.slice na n ncap, ev, pv], dv] w
      (YrsR n (consB n (earl par (loOf n ds) n) (late par (hiOf n ds) n)) (earl par (loOf n ds) n) (late par (hiOf n ds) n) w) := by
  obtain ⟨pa, pcap, rfl, hpl, hT⟩ := hP.at
  have HT := Lib.hid hT; clear hT hP
  have HD := Lib.hid hd; clear hd
  have HN := Lib.hid hn
  have HOK := Lib.hid hok; clear hok
  have HDS := Lib.hid hds; clear hds
  have hp0 := (Hp.refl w).box 26 #[.slice na n ncap, ev, .slice pa par.length pcap]
  have HLO := Lib.hid (loOf_len n ds)
  have HHI := Lib.hid (hiOf_len n ds)
  clear hn
  go_enter Try.func55, Try.ntmps55
  go_wp2_with fail
  refine (rbounds_any ev _ dv na n ncap ds _ (HD.out.below hp0.below) hn64 HDS.out).mono ?_
  rintro e w1 ⟨g1, c1, g2, c2, rfl, hq⟩
  have hp1 : Hp w.heap.size w w1 _ := hp0.call hq
  clear hp0 hq
  generalize loOf n ds = lo at *
  generalize hiOf n ds = hi at *
  go_wp2_with fail
  go_loopw [9] (fun v wr => ∃ k : Nat, k ≤ n ∧ v = .int .i64 k ∧
      Hp w.heap.size w wr [.row 3 1 (.slice (some ⟨g1, 0, none⟩) n c1) n (ints (earl par lo k)), .row 3 1 (.slice (some ⟨g2, 0, none⟩) n c2) n (ints hi), .box 26 w.heap.size [.slice na n ncap, ev, .slice pa par.length pcap]]) (fun v _ => n - (intOf v).toNat)
  case atStart => exact ⟨0, by omega, rfl, hp1⟩
  case round =>
    clear hp1
    obtain ⟨k, hk, rfl, hp⟩ := hrel
    by_cases hlt : k < n
    · have hkp : k < par.length := by rw [HN.out]; exact hlt
      obtain ⟨pb, poff, u, rfl, hpc, hpi⟩ := HT.out k hkp
      obtain ⟨ra, rcap, rfl, hrl, hr⟩ := hpi.at
      have HPC := Lib.hid hpc; clear hpc hpi
      have HR := Lib.hid hr; clear hr
      have HOKP := Lib.hid (HOK.out k hkp)
      have hnode : earl par lo (k + 1) = par[k].foldl (upE k) (earl par lo k) := by
        rw [earl, nodeE]; simp [hkp]
      have HNODE := Lib.hid hnode; clear hnode
      have HEL := Lib.hid ((earl_len par lo k).trans HLO.out)
      generalize hps : par[k] = ps at *
      clear hps
      generalize hxs : earl par lo k = xs at *
      have HXS := Lib.hid hxs; clear hxs
      go_wp2_with fail
      obtain ⟨wo, rfl⟩ : ∃ wo : World, wo = wr := ⟨_, rfl⟩
      go_loopw [10] (fun v wr => ∃ j : Nat, j ≤ ps.length ∧ v = .int .i64 j ∧
          Hp w.heap.size w wr [.row 3 1 (.slice (some ⟨g1, 0, none⟩) n c1) n (ints ((ps.take j).foldl (upE k) xs)), .row 3 1 (.slice (some ⟨g2, 0, none⟩) n c2) n (ints hi), .box 26 w.heap.size [.slice na n ncap, ev, .slice (some ⟨pb, poff, none⟩) par.length pcap]]) (fun v _ => ps.length - (intOf v).toNat)
      case atStart => exact ⟨0, by omega, rfl, hp⟩
      case round =>
        clear hp
        obtain ⟨j, hj, rfl, hp⟩ := hrel
        obtain ⟨bc, _, _, _⟩ := hp.boxAt 2 rfl
        have b2 := bc 2
        clear bc
        have pc := (hp.below.cell (World.block_lt_of_cell? w _ HPC.out)).trans HPC.out
        by_cases hlj : j < ps.length
        · obtain ⟨rb, roff, rfl, r0⟩ := HR.out j hlj
          have r0 := (hp.below.cell (World.block_lt_of_cell? w _ r0)).trans r0
          obtain ⟨p0, p1⟩ := HOKP.out ps[j] (List.getElem_mem hlj)
          have HF := Lib.hid (fold_take (upE k) ps xs j hlj)
          have hl : ((ps.take j).foldl (upE k) xs).length = n := by rw [fold_len _ (upE_len k)]; exact HEL.out
          obtain ⟨rc, rf, rbb, rbl⟩ := hp.rowAt 0 rfl
          have e1 := rc k (by omega)
          have e2 := rc ps[j].toNat (by omega)
          have f1 := rf k
          rw [ints_get _ _ (by omega)] at e1
          rw [ints_get _ _ (by omega)] at e2
          clear rc rf
          have HL := Lib.hid hl; clear hl
          generalize hcur : (ps.take j).foldl (upE k) xs = cur at *
          have hup : upE k cur ps[j] = cur.set k (max (cur.getD k 0) (cur.getD ps[j].toNat 0)) := rfl
          have HUP := Lib.hid hup; clear hup
          have HCUR := Lib.hid hcur; clear hcur
          generalize ps[j] = p at *
          generalize cur.getD k 0 = x1 at *
          generalize cur.getD p.toNat 0 = x2 at *
          go_wp2_with fail
          go_region
          go_wp2_with fail
          go_roundw
          case rel =>
            refine ⟨j + 1, by omega, by go_num, ?_⟩
            rw [HF.out, HUP.out, ← ints_set]
            exact (hp.setRow (i := 0) rfl _ _).drew
          case measure => simp [intOf]; omega
        · have hje : j = ps.length := by omega
          subst hje
          rw [List.take_length] at hp
          go_wp2_with fail
          go_roundw
          case rel =>
            refine ⟨k + 1, by omega, by go_num, ?_⟩
            rw [HNODE.out]
            exact hp
          case measure => simp [intOf]; omega
    · have hkn : k = n := by omega
      subst hkn
      have HEL := Lib.hid ((earl_len par lo k).trans HLO.out)
      generalize hes : earl par lo k = es at *
      have HES := Lib.hid hes; clear hes
      go_wp2_with fail
      go_loopw [11] (fun v wr => ∃ (m : Nat) (ys : List Int), m ≤ k ∧ v = .int .i64 ((m : Int) - 1) ∧ Hid (late par ys m = late par hi k ∧ ys.length = k) ∧
          Hp w.heap.size w wr [.row 3 1 (.slice (some ⟨g1, 0, none⟩) k c1) k (ints es), .row 3 1 (.slice (some ⟨g2, 0, none⟩) k c2) k (ints ys), .box 26 w.heap.size [.slice na k ncap, ev, .slice pa par.length pcap]]) (fun v _ => (intOf v + 1).toNat)
      case atStart => exact ⟨k, hi, by omega, rfl, ⟨rfl, HHI.out⟩, hp⟩
      case round =>
        clear hp
        obtain ⟨k', ys, hk', rfl, hl, hp⟩ := hrel
        by_cases hk0 : 0 < k'
        · obtain ⟨m, rfl⟩ : ∃ m, k' = m + 1 := ⟨k' - 1, by omega⟩
          have em : ((m + 1 : Nat) : Int) - 1 = (m : Int) := by omega
          rw [em]
          clear em hk0
          have hkp : m < par.length := by rw [HN.out]; omega
          obtain ⟨pb, poff, u, rfl, hpc, hpi⟩ := HT.out m hkp
          obtain ⟨ra, rcap, rfl, hrl, hr⟩ := hpi.at
          have HPC := Lib.hid hpc; clear hpc hpi
          have HR := Lib.hid hr; clear hr
          have HOKP := Lib.hid (HOK.out m hkp)
          have hnode : nodeL par ys m = par[m].foldl (dnL m) ys := by
            rw [nodeL]; simp [hkp]
          have HNODE := Lib.hid hnode; clear hnode
          generalize hps : par[m] = ps at *
          clear hps
          go_wp2_with fail
          obtain ⟨wo, rfl⟩ : ∃ wo : World, wo = wr := ⟨_, rfl⟩
          go_loopw [12] (fun v wr => ∃ j : Nat, j ≤ ps.length ∧ v = .int .i64 j ∧
              Hp w.heap.size w wr [.row 3 1 (.slice (some ⟨g1, 0, none⟩) k c1) k (ints es), .row 3 1 (.slice (some ⟨g2, 0, none⟩) k c2) k (ints ((ps.take j).foldl (dnL m) ys)), .box 26 w.heap.size [.slice na k ncap, ev, .slice (some ⟨pb, poff, none⟩) par.length pcap]]) (fun v _ => ps.length - (intOf v).toNat)
          case atStart => exact ⟨0, by omega, rfl, hp⟩
          case round =>
            clear hp
            obtain ⟨j, hj, rfl, hp⟩ := hrel
            obtain ⟨bc, _, _, _⟩ := hp.boxAt 2 rfl
            have b2 := bc 2
            clear bc
            have pc := (hp.below.cell (World.block_lt_of_cell? w _ HPC.out)).trans HPC.out
            by_cases hlj : j < ps.length
            · obtain ⟨rb, roff, rfl, r0⟩ := HR.out j hlj
              have r0 := (hp.below.cell (World.block_lt_of_cell? w _ r0)).trans r0
              obtain ⟨p0, p1⟩ := HOKP.out ps[j] (List.getElem_mem hlj)
              have HF := Lib.hid (fold_take (dnL m) ps ys j hlj)
              have hl2 : ((ps.take j).foldl (dnL m) ys).length = k := by rw [fold_len _ (dnL_len m)]; exact hl.out.2
              obtain ⟨rc, rf, rbb, rbl⟩ := hp.rowAt 1 rfl
              have e1 := rc m (by omega)
              have e2 := rc ps[j].toNat (by omega)
              have f1 := rf ps[j].toNat
              rw [ints_get _ _ (by omega)] at e1
              rw [ints_get _ _ (by omega)] at e2
              clear rc rf
              have HL2 := Lib.hid hl2; clear hl2
              generalize hcur : (ps.take j).foldl (dnL m) ys = cur at *
              have hup : dnL m cur ps[j] = cur.set ps[j].toNat (min (cur.getD ps[j].toNat 0) (cur.getD m 0)) := rfl
              have HUP := Lib.hid hup; clear hup
              have HCUR := Lib.hid hcur; clear hcur
              generalize ps[j] = p at *
              generalize cur.getD m 0 = x1 at *
              generalize cur.getD p.toNat 0 = x2 at *
              go_wp2_with fail
              go_region
              go_wp2_with fail
              go_roundw
              case rel =>
                refine ⟨j + 1, by omega, by go_num, ?_⟩
                rw [HF.out, HUP.out, ← ints_set]
                exact (hp.setRow (i := 1) rfl _ _).drew
              case measure => simp [intOf]; omega
            · have hje : j = ps.length := by omega
              subst hje
              rw [List.take_length, ← HNODE.out] at hp
              go_wp2_with fail
              go_roundw
              case rel => exact ⟨m, _, by omega, rfl, ⟨hl.out.1, (nodeL_len par ys m).trans hl.out.2⟩, hp⟩
              case measure => simp [intOf]
        · obtain rfl : k' = 0 := by omega
          have em : ((0 : Nat) : Int) - 1 = -1 := by omega
          rw [em]
          clear em
          have HYS := Lib.hid (show ys = late par hi k from hl.out.1)
          have HYL := Lib.hid hl.out.2
          clear hl
          go_wp2_with fail
          go_loopw [14] (fun v wr => ∃ j : Nat, j ≤ k ∧ v = .int .i64 j ∧ Hid (∀ i, i < j → es.getD i 0 ≤ ys.getD i 0) ∧
              Hp w.heap.size w wr [.row 3 1 (.slice (some ⟨g1, 0, none⟩) k c1) k (ints es), .row 3 1 (.slice (some ⟨g2, 0, none⟩) k c2) k (ints ys)]) (fun v _ => k - (intOf v).toNat)
          case atStart => exact ⟨0, by omega, rfl, fun i h => absurd h (by omega), hp.sub (by simp)⟩
          case round =>
            clear hp
            obtain ⟨j, hj, rfl, hle, hp⟩ := hrel
            by_cases hlj : j < k
            · obtain ⟨rc1, _, _, _⟩ := hp.rowAt 0 rfl
              obtain ⟨rc3, _, _, _⟩ := hp.rowAt 1 rfl
              have e1 := rc1 j (by omega)
              have e3 := rc3 j (by omega)
              rw [ints_get _ _ (by rw [HEL.out]; exact hlj)] at e1
              rw [ints_get _ _ (by rw [HYL.out]; exact hlj)] at e3
              clear rc1 rc3
              have HBAD := Lib.hid (consB_false k es ys j hlj)
              generalize hx : es.getD j 0 = x at *
              generalize hy : ys.getD j 0 = y at *
              have HX := Lib.hid hx; clear hx
              have HY := Lib.hid hy; clear hy
              by_cases hxy : y < x
              · go_wp2_with fail
                go_quiet (fail)
                go_wp2_with fail
                go_ret3
                rw [← HYS.out, HBAD.out hxy]
                exact ⟨_, _, _, _, rfl, hp.drewN _⟩
              · have hxy2 := Int.not_lt.1 hxy
                clear hxy
                go_wp2_with fail
                go_quiet (fail)
                go_wp2_with fail
                go_roundw
                case rel =>
                  refine ⟨j + 1, by omega, by go_num, fun i hi => ?_, hp.drewN _⟩
                  rcases Nat.lt_or_ge i j with h1 | h1
                  · exact hle.out i h1
                  · obtain rfl : i = j := by omega
                    rw [HX.out, HY.out]; exact hxy2
                case measure => simp [intOf]; omega
            · have hjk : j = k := by omega
              subst hjk
              go_wp2_with fail
              go_ret3
              rw [← HYS.out, consB_true _ _ _ hle.out]
              exact ⟨_, _, _, _, rfl, hp⟩
end Go.Proofs.Ytpbohmddbfaiiaa
