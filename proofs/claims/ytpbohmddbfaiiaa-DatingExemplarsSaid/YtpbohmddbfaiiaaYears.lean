/-
  The earliest and the latest years, as lists: the words, and the two closures. No statement of the seat is proved here.
-/
import Derived.Test.YtpbohmddbfaiiaaBnd
namespace Go.Proofs.Ytpbohmddbfaiiaa
open Go.RowKit

/-- Parents come before their copies. -/
def okPar (par : List (List Int)) : Prop := ∀ i, (h : i < par.length) → ∀ p ∈ par[i], 0 ≤ p ∧ p < i

theorem stCheck_len (s : Stem) (h : stCheck s = 0) : s.names.length ≠ 0 ∧ s.names.length ≤ 64 ∧ s.ext.length = s.names.length ∧ s.par.length = s.names.length ∧ firstErr (stAt s) s.names.length = 0 := by
  unfold stCheck at h
  by_cases h0 : s.names.length = 0
  · rw [if_pos h0] at h; omega
  rw [if_neg h0] at h
  by_cases h64 : 64 < s.names.length
  · rw [if_pos h64] at h; omega
  rw [if_neg h64] at h
  by_cases hl : s.ext.length ≠ s.names.length ∨ s.par.length ≠ s.names.length
  · rw [if_pos hl] at h; omega
  rw [if_neg hl] at h
  exact ⟨h0, by omega, by omega, by omega, h⟩

theorem stAt_zero (s : Stem) (i : Nat) (hi : i < s.names.length) (hp : i < s.par.length) (h : stAt s i = 0) :
    leafNm s.names[i] = true ∧ Lib.containsS (s.names.take i) s.names[i] = false ∧ (∀ p ∈ s.par[i], 0 ≤ p ∧ p < i) ∧ s.par[i].Pairwise (· < ·) := by
  have hst : stAt s i = if leafNm s.names[i] = false then 14 else if Lib.containsS (s.names.take i) s.names[i] = true then 7 else if rngB s.par[i] i = true then 2 else if incB s.par[i] = false then 10 else 0 := by
    rw [stAt]; simp [hi, hp]
  rw [hst] at h
  cases h1 : leafNm s.names[i] with
  | false => rw [if_pos h1] at h; omega
  | true =>
    rw [if_neg (by rw [h1]; simp)] at h
    cases h2 : Lib.containsS (s.names.take i) s.names[i] with
    | true => rw [if_pos h2] at h; omega
    | false =>
      rw [if_neg (by rw [h2]; simp)] at h
      cases h3 : rngB s.par[i] i with
      | true => rw [if_pos h3] at h; omega
      | false =>
        rw [if_neg (by rw [h3]; simp)] at h
        cases h4 : incB s.par[i] with
        | false => rw [if_pos h4] at h; omega
        | true =>
          refine ⟨rfl, rfl, fun p hp => ?_, by simpa [incB] using h4⟩
          rw [rngB, List.any_eq_false] at h3
          have := h3 p hp
          simp at this
          omega

theorem stCheck_okPar (s : Stem) (h : stCheck s = 0) : okPar s.par := by
  obtain ⟨_, _, _, hp, hf⟩ := stCheck_len s h
  intro i hi p hpi
  have h0 := firstErr_zero _ _ hf i (by omega)
  exact (stAt_zero s i (by omega) hi h0).2.2.1 p hpi

/-- A node is not older than a parent. -/
def upE (i : Nat) (xs : List Int) (p : Int) : List Int := xs.set i (max (xs.getD i 0) (xs.getD p.toNat 0))
def nodeE (par : List (List Int)) (xs : List Int) (i : Nat) : List Int := (par.getD i []).foldl (upE i) xs
def earl (par : List (List Int)) (xs : List Int) : Nat → List Int
  | 0 => xs
  | k + 1 => nodeE par (earl par xs k) k
/-- A parent is not younger than a node. -/
def dnL (i : Nat) (xs : List Int) (p : Int) : List Int := xs.set p.toNat (min (xs.getD p.toNat 0) (xs.getD i 0))
def nodeL (par : List (List Int)) (xs : List Int) (i : Nat) : List Int := (par.getD i []).foldl (dnL i) xs
def late (par : List (List Int)) (xs : List Int) : Nat → List Int
  | 0 => xs
  | k + 1 => late par (nodeL par xs k) k

theorem fold_len {α : Type} (f : List Int → α → List Int) (hf : ∀ xs a, (f xs a).length = xs.length) (l : List α) : ∀ xs : List Int, (l.foldl f xs).length = xs.length := by
  induction l with
  | nil => intro xs; rfl
  | cons a l ih => intro xs; rw [List.foldl_cons, ih, hf]
theorem upE_len (i : Nat) (xs : List Int) (p : Int) : (upE i xs p).length = xs.length := by simp [upE]
theorem dnL_len (i : Nat) (xs : List Int) (p : Int) : (dnL i xs p).length = xs.length := by simp [dnL]
theorem nodeE_len (par : List (List Int)) (xs : List Int) (i : Nat) : (nodeE par xs i).length = xs.length := fold_len _ (upE_len i) _ _
theorem nodeL_len (par : List (List Int)) (xs : List Int) (i : Nat) : (nodeL par xs i).length = xs.length := fold_len _ (dnL_len i) _ _
theorem earl_len (par : List (List Int)) (xs : List Int) (k : Nat) : (earl par xs k).length = xs.length := by
  induction k with
  | zero => rfl
  | succ k ih => rw [earl, nodeE_len, ih]
theorem late_len (par : List (List Int)) (k : Nat) : ∀ xs : List Int, (late par xs k).length = xs.length := by
  induction k with
  | zero => intro xs; rfl
  | succ k ih => intro xs; rw [late, ih, nodeL_len]

theorem fold_take {α β : Type} (f : β → α → β) (l : List α) (b : β) (k : Nat) (h : k < l.length) : (l.take (k + 1)).foldl f b = f ((l.take k).foldl f b) l[k] := by
  rw [List.take_succ_eq_append_getElem h, List.foldl_append]; rfl

/-- What a closure over the years leaves. -/
def HandP (f : Nat → List Int → Int → List Int) (B : Nat) (w0 : World) (L : List Res) (g n cap : Nat) (xs : List Int) (ps : List Int) (i : Nat) (e : Ending) (w' : World) : Prop :=
  e = .returned (.tuple #[]) ∧ Hp B w0 w' (.row 3 1 (.slice (some ⟨g, 0, none⟩) n cap) n (ints (ps.foldl (f i) xs)) :: L)

set_option maxRecDepth 100000 in
set_option maxHeartbeats 4000000 in
theorem handE_any (w0 w : World) (g n cap ob sb : Nat) (c0 c1 pv : Value) (par : List (List Int)) (xs : List Int) (i : Nat)
    (hp : Hp w0.heap.size w0 w [.row 3 1 (.slice (some ⟨g, 0, none⟩) n cap) n (ints xs), .box 28 ob [.slice (some ⟨g, 0, none⟩) n cap], .box 26 sb [c0, c1, pv]])
    (hP : Tabs w0 pv par) (hn : par.length = n) (hn64 : n ≤ 64) (hx : xs.length = n) (hok : okPar par) (hi : i < n) :
    Calls Try.prog 79 #[.int .i64 (i : Int), .pointer (some ⟨sb, 0, none⟩), .pointer (some ⟨ob, 0, none⟩)] w
      (HandP upE w0.heap.size w0 [.box 28 ob [.slice (some ⟨g, 0, none⟩) n cap], .box 26 sb [c0, c1, pv]] g n cap xs (par.getD i []) i) := by
  have hip : i < par.length := by omega
  have hgp : par.getD i [] = par[i] := by simp [hip]
  obtain ⟨pa, pcap, rfl, hpl, hT⟩ := hP.at
  obtain ⟨pb, poff, u, rfl, hpc, hpi⟩ := hT i hip
  obtain ⟨ra, rcap, rfl, hrl, hr⟩ := hpi.at
  have hokp := hok i hip
  have hpc := (hp.below.cell (World.block_lt_of_cell? w0 _ hpc)).trans hpc
  clear hok hT hpi hP
  have HR := Lib.hid hr; clear hr
  rw [hgp]
  generalize hps : par[i] = ps at *
  have HX := Lib.hid hx; clear hx
  have HOK := Lib.hid hokp; clear hokp
  have H1 := Lib.hid hn; clear hn
  clear hps hgp
  obtain ⟨bc, bf, _, _⟩ := hp.boxAt 2 rfl
  have b2 := bc 2
  clear bc bf
  go_enter Try.func79, Try.ntmps79
  go_wp2_with fail
  go_loopw [12] (fun v wr => ∃ k : Nat, k ≤ ps.length ∧ v = .int .i64 k ∧
      Hp w0.heap.size w0 wr [.row 3 1 (.slice (some ⟨g, 0, none⟩) n cap) n (ints ((ps.take k).foldl (upE i) xs)), .box 28 ob [.slice (some ⟨g, 0, none⟩) n cap], .box 26 sb [c0, c1, .slice (some ⟨pb, poff, none⟩) par.length pcap]]) (fun v _ => ps.length - (intOf v).toNat)
  case atStart => exact ⟨0, by omega, rfl, hp⟩
  case round =>
    clear hp b2 hpc
    obtain ⟨k, hk, rfl, hp⟩ := hrel
    by_cases hlt : k < ps.length
    · obtain ⟨rb, roff, rfl, r0⟩ := HR.out k hlt
      have r0 := (hp.below.cell (World.block_lt_of_cell? w0 _ r0)).trans r0
      obtain ⟨p0, p1⟩ := HOK.out ps[k] (List.getElem_mem hlt)
      have HF := Lib.hid (fold_take (upE i) ps xs k hlt)
      have hl : ((ps.take k).foldl (upE i) xs).length = n := by rw [fold_len _ (upE_len i)]; exact HX.out
      obtain ⟨rc, rf, rbb, rbl⟩ := hp.rowAt 0 rfl
      have e1 := rc i (by omega)
      have e2 := rc ps[k].toNat (by omega)
      have f1 := rf i
      obtain ⟨oc, _, _, _⟩ := hp.boxAt 1 rfl
      have o0 := oc 0
      have hne : g ≠ ob := hp.blkNe (i := 0) (j := 1) (by decide) rfl rfl rfl rfl
      rw [ints_get _ _ (by omega)] at e1
      rw [ints_get _ _ (by omega)] at e2
      clear rc rf oc
      have HL := Lib.hid hl; clear hl
      generalize hcur : (ps.take k).foldl (upE i) xs = cur at *
      have hup : upE i cur ps[k] = cur.set i (max (cur.getD i 0) (cur.getD ps[k].toNat 0)) := rfl
      have HUP := Lib.hid hup; clear hup
      have HCUR := Lib.hid hcur; clear hcur
      generalize ps[k] = p at *
      generalize cur.getD i 0 = x1 at *
      generalize cur.getD p.toNat 0 = x2 at *
      go_wp2_with fail
      go_region
      go_wp2_with fail
      go_roundw
      case rel =>
        refine ⟨k + 1, by omega, by go_num, ?_⟩
        rw [HF.out, HUP.out, ← ints_set]
        exact (hp.setRow (i := 0) rfl _ _).drew
      case measure => simp [intOf]; omega
    · obtain rfl : k = ps.length := by omega
      rw [List.take_length] at hp
      go_wp2_with fail
      go_end0
      exact ⟨rfl, hp⟩
set_option maxRecDepth 100000 in
set_option maxHeartbeats 4000000 in
theorem handL_any (w0 w : World) (g n cap ob sb : Nat) (c0 c1 pv : Value) (par : List (List Int)) (xs : List Int) (i : Nat)
    (hp : Hp w0.heap.size w0 w [.row 3 1 (.slice (some ⟨g, 0, none⟩) n cap) n (ints xs), .box 28 ob [.slice (some ⟨g, 0, none⟩) n cap], .box 26 sb [c0, c1, pv]])
    (hP : Tabs w0 pv par) (hn : par.length = n) (hn64 : n ≤ 64) (hx : xs.length = n) (hok : okPar par) (hi : i < n) :
    Calls Try.prog 80 #[.int .i64 (i : Int), .pointer (some ⟨sb, 0, none⟩), .pointer (some ⟨ob, 0, none⟩)] w
      (HandP dnL w0.heap.size w0 [.box 28 ob [.slice (some ⟨g, 0, none⟩) n cap], .box 26 sb [c0, c1, pv]] g n cap xs (par.getD i []) i) := by
  have hip : i < par.length := by omega
  have hgp : par.getD i [] = par[i] := by simp [hip]
  obtain ⟨pa, pcap, rfl, hpl, hT⟩ := hP.at
  obtain ⟨pb, poff, u, rfl, hpc, hpi⟩ := hT i hip
  obtain ⟨ra, rcap, rfl, hrl, hr⟩ := hpi.at
  have hokp := hok i hip
  have hpc := (hp.below.cell (World.block_lt_of_cell? w0 _ hpc)).trans hpc
  clear hok hT hpi hP
  have HR := Lib.hid hr; clear hr
  rw [hgp]
  generalize hps : par[i] = ps at *
  have HX := Lib.hid hx; clear hx
  have HOK := Lib.hid hokp; clear hokp
  have H1 := Lib.hid hn; clear hn
  clear hps hgp
  obtain ⟨bc, bf, _, _⟩ := hp.boxAt 2 rfl
  have b2 := bc 2
  clear bc bf
  go_enter Try.func80, Try.ntmps80
  go_wp2_with fail
  go_loopw [12] (fun v wr => ∃ k : Nat, k ≤ ps.length ∧ v = .int .i64 k ∧
      Hp w0.heap.size w0 wr [.row 3 1 (.slice (some ⟨g, 0, none⟩) n cap) n (ints ((ps.take k).foldl (dnL i) xs)), .box 28 ob [.slice (some ⟨g, 0, none⟩) n cap], .box 26 sb [c0, c1, .slice (some ⟨pb, poff, none⟩) par.length pcap]]) (fun v _ => ps.length - (intOf v).toNat)
  case atStart => exact ⟨0, by omega, rfl, hp⟩
  case round =>
    clear hp b2 hpc
    obtain ⟨k, hk, rfl, hp⟩ := hrel
    by_cases hlt : k < ps.length
    · obtain ⟨rb, roff, rfl, r0⟩ := HR.out k hlt
      have r0 := (hp.below.cell (World.block_lt_of_cell? w0 _ r0)).trans r0
      obtain ⟨p0, p1⟩ := HOK.out ps[k] (List.getElem_mem hlt)
      have HF := Lib.hid (fold_take (dnL i) ps xs k hlt)
      have hl : ((ps.take k).foldl (dnL i) xs).length = n := by rw [fold_len _ (dnL_len i)]; exact HX.out
      obtain ⟨rc, rf, rbb, rbl⟩ := hp.rowAt 0 rfl
      have e1 := rc i (by omega)
      have e2 := rc ps[k].toNat (by omega)
      have f1 := rf ps[k].toNat
      obtain ⟨oc, _, _, _⟩ := hp.boxAt 1 rfl
      have o0 := oc 0
      have hne : g ≠ ob := hp.blkNe (i := 0) (j := 1) (by decide) rfl rfl rfl rfl
      rw [ints_get _ _ (by omega)] at e1
      rw [ints_get _ _ (by omega)] at e2
      clear rc rf oc
      have HL := Lib.hid hl; clear hl
      generalize hcur : (ps.take k).foldl (dnL i) xs = cur at *
      have hup : dnL i cur ps[k] = cur.set ps[k].toNat (min (cur.getD ps[k].toNat 0) (cur.getD i 0)) := rfl
      have HUP := Lib.hid hup; clear hup
      have HCUR := Lib.hid hcur; clear hcur
      generalize ps[k] = p at *
      generalize cur.getD i 0 = x1 at *
      generalize cur.getD p.toNat 0 = x2 at *
      go_wp2_with fail
      go_region
      go_wp2_with fail
      go_roundw
      case rel =>
        refine ⟨k + 1, by omega, by go_num, ?_⟩
        rw [HF.out, HUP.out, ← ints_set]
        exact (hp.setRow (i := 0) rfl _ _).drew
      case measure => simp [intOf]; omega
    · obtain rfl : k = ps.length := by omega
      rw [List.take_length] at hp
      go_wp2_with fail
      go_end0
      exact ⟨rfl, hp⟩
end Go.Proofs.Ytpbohmddbfaiiaa
