/-
  The first and last years that dates say of the nodes: both makes compute the same lists. No statement of the seat is proved here.
-/
import Derived.Test.YtpbohmddbfaiiaaDat
import Derived.Test.YtpbohmddbfaiiaaRep
import Derived.Deep.DeepCutAuto
namespace Go.Proofs.Ytpbohmddbfaiiaa
open Go.RowKit

def put1 (xs : List Int) (d : Dt) : List Int := xs.set d.node.toNat d.fr
def put2 (xs : List Int) (d : Dt) : List Int := xs.set d.node.toNat d.to
def loOf (n : Nat) (ds : List Dt) : List Int := ds.foldl put1 (List.replicate n (-5000))
def hiOf (n : Nat) (ds : List Dt) : List Int := ds.foldl put2 (List.replicate n 5000)

theorem ints_rep_succ (k : Nat) (x : Int) : ints (List.replicate k x) ++ [.int .i64 x] = ints (List.replicate (k + 1) x) := by
  simp [ints, List.replicate_succ']
theorem put1_take (ds : List Dt) (xs : List Int) (j : Nat) (hj : j < ds.length) : (ds.take (j + 1)).foldl put1 xs = ((ds.take j).foldl put1 xs).set ds[j].node.toNat ds[j].fr := by
  rw [List.take_succ_eq_append_getElem hj, List.foldl_append]; rfl
theorem put2_take (ds : List Dt) (xs : List Int) (j : Nat) (hj : j < ds.length) : (ds.take (j + 1)).foldl put2 xs = ((ds.take j).foldl put2 xs).set ds[j].node.toNat ds[j].to := by
  rw [List.take_succ_eq_append_getElem hj, List.foldl_append]; rfl
theorem put1_len (ds : List Dt) : ∀ xs : List Int, (ds.foldl put1 xs).length = xs.length := by
  induction ds with
  | nil => intro xs; rfl
  | cons d ds ih => intro xs; rw [List.foldl_cons, ih]; simp [put1]
theorem put2_len (ds : List Dt) : ∀ xs : List Int, (ds.foldl put2 xs).length = xs.length := by
  induction ds with
  | nil => intro xs; rfl
  | cons d ds ih => intro xs; rw [List.foldl_cons, ih]; simp [put2]
theorem loOf_len (n : Nat) (ds : List Dt) : (loOf n ds).length = n := by rw [loOf, put1_len, List.length_replicate]
theorem hiOf_len (n : Nat) (ds : List Dt) : (hiOf n ds).length = n := by rw [hiOf, put2_len, List.length_replicate]

theorem Hp.bcell {B : Nat} {w0 w : World} {L : List Res} (h : Hp B w0 w L) : ∀ b o, b < B → w.cell? ⟨b, o, .none⟩ = w0.cell? ⟨b, o, .none⟩ := fun b o hb => h.below.cell (p := ⟨b, o, .none⟩) hb

theorem Hp.box0 {B : Nat} {w0 w : World} {e : TypeId} {g : Nat} {c : Value} {cs : List Value} {L : List Res} (h : Hp B w0 w (.box e g (c :: cs) :: L)) : w.cell? ⟨g, 0, .none⟩ = some c := (h.boxAt 0 rfl).1 0

section
variable {B : Nat} {w0 w w' : World} {e : TypeId} {g : Nat} {c : Value} {cs : List Value} {L : List Res}
theorem s1_grow (h : Hp B w0 w (.box e g (c :: cs) :: L) ∧ w.cell? ⟨g, 0, .none⟩ = some c) (hb : Below w.heap.size w w') : Hp B w0 w' (.box e g (c :: cs) :: L) ∧ w'.cell? ⟨g, 0, .none⟩ = some c := ⟨h.1.grow hb, (h.1.grow hb).box0⟩
theorem s1_alloc (h : Hp B w0 w (.box e g (c :: cs) :: L) ∧ w.cell? ⟨g, 0, .none⟩ = some c) (o : Obj) : Hp B w0 (w.alloc o) (.box e g (c :: cs) :: L) ∧ (w.alloc o).cell? ⟨g, 0, .none⟩ = some c := ⟨h.1.alloc0 o, (h.1.alloc0 o).box0⟩
theorem s1_drew (h : Hp B w0 w (.box e g (c :: cs) :: L) ∧ w.cell? ⟨g, 0, .none⟩ = some c) : Hp B w0 w.drew (.box e g (c :: cs) :: L) ∧ w.drew.cell? ⟨g, 0, .none⟩ = some c := ⟨h.1.drew, h.1.drew.box0⟩
end

theorem cell_new (w : World) (c : Value) (e : TypeId) : (w.alloc (.cells #[c] e)).cell? ⟨w.heap.size, 0, none⟩ = some c := by simp
theorem cell_newd (w : World) (c : Value) (e : TypeId) : (w.alloc (.cells #[c] e)).drew.cell? ⟨w.heap.size, 0, none⟩ = some c := by simp
theorem cell_oldd {w : World} {b f : Nat} (o : Obj) (h : b < w.heap.size) : (w.alloc o).drew.cell? ⟨b, f, none⟩ = w.cell? ⟨b, f, none⟩ := World.cell?_of_block (w := w) (a := ⟨b, f, none⟩) (Below.heap_alloc w o b h)
theorem cell_old {w : World} {b f : Nat} (o : Obj) (h : b < w.heap.size) : (w.alloc o).cell? ⟨b, f, none⟩ = w.cell? ⟨b, f, none⟩ := World.cell?_of_block (w := w) (a := ⟨b, f, none⟩) (Below.heap_alloc w o b h)

theorem ints_one {w : World} {b : Nat} {c : Int} (h : w.cell? ⟨b, 0, none⟩ = some (.int .i64 c)) : Ints w (.slice (some ⟨b, 0, none⟩) 1 1) [c] :=
  ⟨by simp, ⟨_, _, rfl, .inr ⟨b, 0, rfl, fun j hj => by
    obtain rfl : j = 0 := by simpa using hj
    simpa using h⟩⟩, fun a m c' hv => by simp only [Value.slice.injEq] at hv; omega⟩

set_option maxRecDepth 100000 in
set_option maxHeartbeats 4000000 in
theorem rbounds_any (ev pv dv : Value) (na : Option Addr) (nn ncap : Nat) (ds : List Dt) (w : World) (hd : Dats w dv ds) (hn : nn ≤ 64) (hok : ∀ d ∈ ds, 0 ≤ d.node ∧ d.node < nn) :
    Calls Try.prog 53 #[.agg #[.slice na nn ncap, ev, pv], dv] w fun e w' => ∃ g1 c1 g2 c2, e = .returned (.tuple #[.slice (some ⟨g1, 0, none⟩) nn c1, .slice (some ⟨g2, 0, none⟩) nn c2]) ∧
      Hp w.heap.size w w' [.row 3 1 (.slice (some ⟨g1, 0, none⟩) nn c1) nn (ints (loOf nn ds)), .row 3 1 (.slice (some ⟨g2, 0, none⟩) nn c2) nn (ints (hiOf nn ds))] := by
  obtain ⟨a, cap, rfl, hlen, hc⟩ := hd.at
  have HD := Lib.hid hd; clear hd
  have HC := Lib.hid hc; clear hc
  have HOK := Lib.hid hok; clear hok
  go_enter Try.func53, Try.ntmps53
  go_wp2
  go_loopw [6, 7, 8] (fun v6 v7 i wr => ∃ k : Nat, k ≤ nn ∧ i = .int .i64 k ∧ (∃ g1 c1 g2 c2, v6 = .slice (some ⟨g1, 0, none⟩) k c1 ∧ v7 = .slice (some ⟨g2, 0, none⟩) k c2) ∧
      Hp w.heap.size w wr [.row 3 1 v6 k (ints (List.replicate k (-5000))), .row 3 1 v7 k (ints (List.replicate k 5000)), .box 26 w.heap.size [.slice na nn ncap, ev, pv]])
     (fun _ _ i _ => nn - (intOf i).toNat)
  case atStart =>
    refine ⟨0, by omega, rfl, ⟨_, _, _, _, rfl, rfl⟩, ?_⟩
    have h1 := (Hp.refl w).box 26 #[.slice na nn ncap, ev, pv]
    have h2 := h1.lit 3 1 #[] 0 (by decide) rfl (g := w.heap.size + 1) (by simp)
    have h3 := h2.lit 3 1 #[] 0 (by decide) rfl (g := w.heap.size + 1 + 1) (by simp)
    exact h3.swap
  case round =>
    obtain ⟨k, hk, rfl, ⟨g1, c1, g2, c2, rfl, rfl⟩, hp⟩ := hrel
    obtain ⟨bc, bf, bb, bl⟩ := hp.boxAt 2 rfl
    have b0 := bc 0
    clear bc bf
    by_cases hlt : k < nn
    · go_wp2_with (first
        | (at_builtin; refine wpList_append1_new rfl (.tmp 19) (.tmp 20) 28 rfl TInts hp 0 rfl rfl rfl rfl (by omega) (by omega) ?_; intro g1' c1' w1 hp1)
        | (at_builtin; refine wpList_append1_new rfl (.tmp 22) (.tmp 23) 28 rfl TInts hp1 1 rfl rfl rfl rfl (by omega) (by omega) ?_; intro g2' c2' w2 hp2))
      go_roundw
      case rel => exact ⟨k + 1, by omega, by go_num, ⟨_, _, _, _, rfl, rfl⟩, by rw [← ints_rep_succ, ← ints_rep_succ]; exact hp2⟩
      case measure => simp [intOf]; omega
    · obtain rfl : k = nn := by omega
      go_wp2
      go_loopw [9] (fun i wr => ∃ j : Nat, j ≤ ds.length ∧ i = .int .i64 j ∧ Hp w.heap.size w wr [.row 3 1 (.slice (some ⟨g1, 0, none⟩) k c1) k (ints ((ds.take j).foldl put1 (List.replicate k (-5000)))), .row 3 1 (.slice (some ⟨g2, 0, none⟩) k c2) k (ints ((ds.take j).foldl put2 (List.replicate k 5000)))])
         (fun i _ => ds.length - (intOf i).toNat)
      case atStart => exact ⟨0, by omega, rfl, hp.sub (by simp)⟩
      case round =>
        clear hp b0 bb bl
        obtain ⟨j, hj, rfl, hp⟩ := hrel
        by_cases hlt : j < ds.length
        · obtain ⟨b, off, rfl, d0, d1, d2⟩ := HC.out j hlt
          have hb := hp.below
          have d0 := (hb.cell (World.block_lt_of_cell? w _ d0)).trans d0
          have d1 := (hb.cell (World.block_lt_of_cell? w _ d1)).trans d1
          have d2 := (hb.cell (World.block_lt_of_cell? w _ d2)).trans d2
          obtain ⟨n0, n1⟩ := HOK.out ds[j] (List.getElem_mem hlt)
          have H1 := Lib.hid (put1_take ds (List.replicate k (-5000)) j hlt)
          have H2 := Lib.hid (put2_take ds (List.replicate k 5000) j hlt)
          obtain ⟨rc6, rf6, rb6, rl6⟩ := hp.rowAt 0 rfl
          obtain ⟨rc7, rf7, rb7, rl7⟩ := hp.rowAt 1 rfl
          have e6 := rc6 ds[j].node.toNat (by omega)
          have e7 := rc7 ds[j].node.toNat (by omega)
          rw [ints_get _ _ (by rw [put1_len]; simp; omega)] at e6
          rw [ints_get _ _ (by rw [put2_len]; simp; omega)] at e7
          have f6 := rf6 ds[j].node.toNat
          have f7 := rf7 ds[j].node.toNat
          have hne : g1 ≠ g2 := hp.blkNe (i := 0) (j := 1) (by decide) rfl rfl rfl rfl
          clear rc6 rc7 rf6 rf7 hb
          generalize ds[j].node = nd at *
          generalize ds[j].fr = nf at *
          generalize ds[j].to = nt at *
          generalize (List.foldl put1 (List.replicate k (-5000)) (List.take j ds)).getD nd.toNat 0 = x1 at *
          generalize (List.foldl put2 (List.replicate k 5000) (List.take j ds)).getD nd.toNat 0 = x2 at *
          go_wp2
          go_region
          go_wp2
          go_roundw
          case rel => exact ⟨j + 1, by omega, by go_num, by rw [H1.out, H2.out, ← ints_set, ← ints_set]; exact ((hp.setRow (i := 0) rfl _ _).setRow (i := 1) rfl _ _).drew⟩
          case measure => simp [intOf]; omega
        · obtain rfl : j = ds.length := by omega
          rw [List.take_length] at hp
          go_wp2
          go_ret2
          exact ⟨_, _, _, _, rfl, hp⟩

/-- What slices.Repeat of one number leaves. -/
def RepP (n : Nat) (c : Int) (w : World) (e : Ending) (w' : World) : Prop := ∃ g, e = .returned (.slice (some ⟨g, 0, none⟩) n n) ∧ Hp w.heap.size w w' [.row 3 1 (.slice (some ⟨g, 0, none⟩) n n) n (ints (List.replicate n c))]
theorem rep_at (c : Int) (n : Nat) (hn : n ≤ 1000000) (b : Nat) (w : World) (h : w.cell? ⟨b, 0, none⟩ = some (.int .i64 c)) :
    Calls Try.prog 57 #[.slice (some ⟨b, 0, none⟩) 1 1, .int .i64 (n : Int)] w (RepP n c w) := repeat_any _ c n hn w (ints_one h)

set_option maxRecDepth 100000 in
set_option maxHeartbeats 8000000 in
theorem bounds_any (ev pv dv : Value) (na : Option Addr) (nn ncap : Nat) (ds : List Dt) (w : World) (hd : Dats w dv ds) (hn : nn ≤ 64) (hok : ∀ d ∈ ds, 0 ≤ d.node ∧ d.node < nn) :
    Calls Try.prog 39 #[.agg #[.slice na nn ncap, ev, pv], dv] w fun e w' => ∃ g1 c1 g2 c2, e = .returned (.tuple #[.slice (some ⟨g1, 0, none⟩) nn c1, .slice (some ⟨g2, 0, none⟩) nn c2]) ∧
      Hp w.heap.size w w' [.row 3 1 (.slice (some ⟨g1, 0, none⟩) nn c1) nn (ints (loOf nn ds)), .row 3 1 (.slice (some ⟨g2, 0, none⟩) nn c2) nn (ints (hiOf nn ds))] := by
  obtain ⟨a, cap, rfl, hlen, hc⟩ := hd.at
  have HD := Lib.hid hd; clear hd
  have HC := Lib.hid hc; clear hc
  have HOK := Lib.hid hok; clear hok
  have hp0 := (Hp.refl w).box 26 #[.slice na nn ncap, ev, pv]
  go_enter Try.func39, Try.ntmps39
  go_upto_region 1 with fail
  go_cut [4, 5] (fun s4 s5 wx => ∃ g1 g2, s4 = .slice (some ⟨g1, 0, none⟩) nn nn ∧ s5 = .slice (some ⟨g2, 0, none⟩) nn nn ∧
      Hp w.heap.size w wx [.row 3 1 (.slice (some ⟨g1, 0, none⟩) nn nn) nn (ints (List.replicate nn (-5000))), .row 3 1 (.slice (some ⟨g2, 0, none⟩) nn nn) nn (ints (List.replicate nn 5000)), .box 26 w.heap.size [.slice na nn ncap, ev, pv]])
  case first =>
    have b0 := (hp0.boxAt 0 rfl).1 0
    have hS0 : Hp w.heap.size w (w.alloc (.cells #[.slice na nn ncap, ev, pv] 26)) [.box 26 w.heap.size [.slice na nn ncap, ev, pv]] := hp0
    go_region_held3 (fun w' => Hp w.heap.size w w' [.box 26 w.heap.size [.slice na nn ncap, ev, pv]] ∧ w'.cell? ⟨w.heap.size, 0, none⟩ = some (.slice na nn ncap))
      (first
        | exact ⟨hS0.drew, Hp.box0 hS0.drew⟩
        | exact ⟨hS0, Hp.box0 hS0⟩
        | exact s1_alloc (by assumption) _
        | exact s1_drew (s1_alloc (by assumption) _)
        | exact s1_grow (by assumption) hqB.below
        | exact s1_grow (by assumption) hqA.below)
      (first
        | (go_at_call 57; refine (rep_at (-5000) nn (by omega) _ _ ?_).mono ?_; (go_simp); rintro e w1 ⟨gA, rfl, hqA⟩; have hcA := hqA.bcell; have sA := hqA.below.size; try simp only [World.size_alloc, World.size_drew] at hcA sA)
        | (go_at_call 57; refine (rep_at 5000 nn (by omega) _ _ ?_).mono ?_; (go_simp); rintro e w1 ⟨gB, rfl, hqB⟩; have hcB := hqB.bcell; have sB := hqB.below.size; try simp only [World.size_alloc, World.size_drew] at hcB sB))
    all_goals
      go_wp2_with fail
      go_meet
      first
        | exact ⟨gA, gB, rfl, rfl, ((((hS0.alloc0 _).alloc0 _).drew.call hqA).call hqB).swap⟩
        | exact ⟨gA, gB, rfl, rfl, ((((hS0.alloc0 _).drew.call hqA).alloc0 _).call hqB).swap⟩
  case rest =>
    obtain ⟨g1, g2, rfl, rfl, hp⟩ := hcut
    go_wp2_with fail
    go_loopw [20] (fun i wr => ∃ j : Nat, j ≤ ds.length ∧ i = .int .i64 j ∧ Hp w.heap.size w wr [.row 3 1 (.slice (some ⟨g1, 0, none⟩) nn nn) nn (ints ((ds.take j).foldl put1 (List.replicate nn (-5000)))), .row 3 1 (.slice (some ⟨g2, 0, none⟩) nn nn) nn (ints ((ds.take j).foldl put2 (List.replicate nn 5000)))])
       (fun i _ => ds.length - (intOf i).toNat)
    case atStart => exact ⟨0, by omega, rfl, hp.sub (by simp)⟩
    case round =>
      clear hp
      obtain ⟨j, hj, rfl, hp⟩ := hrel
      by_cases hlt : j < ds.length
      · obtain ⟨b, off, rfl, d0, d1, d2⟩ := HC.out j hlt
        have hb := hp.below
        have d0 := (hb.cell (World.block_lt_of_cell? w _ d0)).trans d0
        have d1 := (hb.cell (World.block_lt_of_cell? w _ d1)).trans d1
        have d2 := (hb.cell (World.block_lt_of_cell? w _ d2)).trans d2
        obtain ⟨n0, n1⟩ := HOK.out ds[j] (List.getElem_mem hlt)
        have H1 := Lib.hid (put1_take ds (List.replicate nn (-5000)) j hlt)
        have H2 := Lib.hid (put2_take ds (List.replicate nn 5000) j hlt)
        obtain ⟨rc6, rf6, rb6, rl6⟩ := hp.rowAt 0 rfl
        obtain ⟨rc7, rf7, rb7, rl7⟩ := hp.rowAt 1 rfl
        have e6 := rc6 ds[j].node.toNat (by omega)
        have e7 := rc7 ds[j].node.toNat (by omega)
        rw [ints_get _ _ (by rw [put1_len]; simp; omega)] at e6
        rw [ints_get _ _ (by rw [put2_len]; simp; omega)] at e7
        have f6 := rf6 ds[j].node.toNat
        have f7 := rf7 ds[j].node.toNat
        have hne : g1 ≠ g2 := hp.blkNe (i := 0) (j := 1) (by decide) rfl rfl rfl rfl
        clear rc6 rc7 rf6 rf7 hb
        generalize ds[j].node = nd at *
        generalize ds[j].fr = nf at *
        generalize ds[j].to = nt at *
        generalize (List.foldl put1 (List.replicate nn (-5000)) (List.take j ds)).getD nd.toNat 0 = x1 at *
        generalize (List.foldl put2 (List.replicate nn 5000) (List.take j ds)).getD nd.toNat 0 = x2 at *
        go_wp2
        go_region
        go_wp2
        go_roundw
        case rel => exact ⟨j + 1, by omega, by go_num, by rw [H1.out, H2.out, ← ints_set, ← ints_set]; exact (((hp.setRow (i := 0) rfl _ _).setRow (i := 1) rfl _ _).alloc0 _).drew⟩
        case measure => simp [intOf]; omega
      · obtain rfl : j = ds.length := by omega
        rw [List.take_length] at hp
        go_wp2
        go_ret2
        exact ⟨_, _, _, _, rfl, hp⟩
end Go.Proofs.Ytpbohmddbfaiiaa
