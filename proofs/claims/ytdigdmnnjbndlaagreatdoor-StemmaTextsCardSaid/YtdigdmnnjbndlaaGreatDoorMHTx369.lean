/-
  Part 9 of the proof: Pf36, Pw36, Stl, Mx, Rf. No statement of the seat is proved here.
-/
import Derived.Test.YtdigdmnnjbndlaaGreatDoorMHTx368
import Derived.Lib.ItoaNum
import Derived.StringKeys
import Derived.RangeFuncRecord
import Derived.RangeFuncLeaves
import Derived.RangeFuncCalls
import Derived.Sort.LoopGhostIn
namespace Go.Proofs.YtdigdmnnjbndlaaGreatDoor
open Go.RowKit
def inK (par : List Int) (i k : Nat) : Bool := anyN (fun j => decide (par.getD j 0 = (i : Int))) k
def inn (t : Tre) (i : Nat) : Bool := inK t.par i t.par.length
def parB (par : List Int) (i : Nat) : Prop := if i = 0 then par.getD 0 0 ≠ -1 else par.getD i 0 < 0 ∨ (i : Int) ≤ par.getD i 0
instance (par : List Int) (i : Nat) : Decidable (parB par i) := by unfold parB; infer_instance
def parE (t : Tre) (i : Nat) : Int := if parB t.par i then 2 else 0
def namE (t : Tre) (i : Nat) : Int :=
  if inn t i = true then (if t.names.getD i ByteArray.empty = ByteArray.empty then 0 else 14)
  else if leafNm (t.names.getD i ByteArray.empty) = false then 14
  else if Lib.containsS (t.names.take i) (t.names.getD i ByteArray.empty) = true then 7 else 0
def treC (t : Tre) : Int :=
  if t.par.length = 0 then 5 else if 64 < t.par.length then 4 else if t.names.length ≠ t.par.length then 9
  else if firstErr (parE t) t.par.length ≠ 0 then firstErr (parE t) t.par.length else firstErr (namE t) t.par.length
theorem inK_step (par : List Int) (i k : Nat) : inK par i (k + 1) = (inK par i k || decide (par.getD k 0 = (i : Int))) := by
  unfold inK anyN
  rw [List.range_succ, List.any_append]
  simp
theorem treC_len {t : Tre} (h : treC t = 0) : 0 < t.par.length ∧ t.par.length ≤ 64 ∧ t.names.length = t.par.length ∧ (∀ i, i < t.par.length → ¬ parB t.par i) ∧ ∀ i, i < t.par.length → namE t i = 0 := by
  unfold treC at h
  split at h
  · omega
  split at h
  · omega
  split at h
  · omega
  split at h
  · omega
  · rename_i h1 h2 h3 h4
    refine ⟨by omega, by omega, by omega, fun i hi hb => ?_, firstErr_zero _ _ h⟩
    have := firstErr_zero _ _ (by omega : firstErr (parE t) t.par.length = 0) i hi
    unfold parE at this
    rw [if_pos hb] at this
    omega
theorem treC_par {t : Tre} (h : treC t = 0) : t.par.getD 0 0 = -1 ∧ ∀ i, 0 < i → i < t.par.length → 0 ≤ t.par.getD i 0 ∧ t.par.getD i 0 < (i : Int) := by
  obtain ⟨h0, _, _, hp, _⟩ := treC_len h
  refine ⟨?_, fun i h1 h2 => ?_⟩
  · have := hp 0 h0
    unfold parB at this
    rw [if_pos rfl] at this
    omega
  · have := hp i h2
    unfold parB at this
    rw [if_neg (by omega)] at this
    omega
theorem treC_nm {t : Tre} (h : treC t = 0) (i : Nat) (hi : i < t.par.length) : (inn t i = true ∧ t.names.getD i ByteArray.empty = ByteArray.empty) ∨ (inn t i = false ∧ leafNm (t.names.getD i ByteArray.empty) = true ∧ Lib.containsS (t.names.take i) (t.names.getD i ByteArray.empty) = false) := by
  have := (treC_len h).2.2.2.2 i hi
  unfold namE at this
  split at this
  · split at this
    · exact .inl ⟨by assumption, by assumption⟩
    · omega
  · split at this
    · omega
    split at this
    · omega
    · rename_i h1 h2 h3
      exact .inr ⟨by simpa using h1, by simpa using h2, by simpa using h3⟩
def itS (i : Nat) : ByteArray := bOf (120 :: Lib.decDigits i)
def treW (t : Tre) (i : Nat) : ByteArray := if t.names.getD i ByteArray.empty = ByteArray.empty then itS i else t.names.getD i ByteArray.empty
def ftN (t : Tre) (k : Nat) : List ByteArray := (List.range k).map (treW t)
def ftX (t : Tre) (k : Nat) : List Bool := (List.range k).map fun i => decide (t.names.getD i ByteArray.empty ≠ ByteArray.empty)
def ftP (t : Tre) (k : Nat) : List (List Int) := (List.range k).map fun i => if i = 0 then [] else [t.par.getD i 0]
def ftS (t : Tre) : Stem := ⟨ftN t t.par.length, ftX t t.par.length, ftP t t.par.length⟩
def dupE (t : Tre) (i : Nat) : Int := if Lib.containsS ((ftN t t.par.length).take i) ((ftN t t.par.length).getD i ByteArray.empty) = true then 7 else 0
def ftE (t : Tre) : Int := if treC t ≠ 0 then 1 else firstErr (dupE t) t.par.length
theorem ftN_step (t : Tre) (k : Nat) : ftN t (k + 1) = ftN t k ++ [treW t k] := by
  unfold ftN; rw [List.range_succ, List.map_append]; rfl
theorem ftX_step (t : Tre) (k : Nat) : ftX t (k + 1) = ftX t k ++ [decide (t.names.getD k ByteArray.empty ≠ ByteArray.empty)] := by
  unfold ftX; rw [List.range_succ, List.map_append]; rfl
theorem ftP_step (t : Tre) (k : Nat) : ftP t (k + 1) = ftP t k ++ [if k = 0 then [] else [t.par.getD k 0]] := by
  unfold ftP; rw [List.range_succ, List.map_append]; rfl
theorem ftN_len (t : Tre) (k : Nat) : (ftN t k).length = k := by simp [ftN]
theorem ftX_len (t : Tre) (k : Nat) : (ftX t k).length = k := by simp [ftX]
theorem ftP_len (t : Tre) (k : Nat) : (ftP t k).length = k := by simp [ftP]
theorem ftN_at (t : Tre) (k i : Nat) (h : i < k) : (ftN t k).getD i ByteArray.empty = treW t i := by simp [ftN, h]
theorem ftP_at (t : Tre) (k i : Nat) (h : i < k) : (ftP t k).getD i [] = if i = 0 then [] else [t.par.getD i 0] := by simp [ftP, h]
theorem itS_nm : ∀ i, i < 64 → leafNm (itS i) = true := by
  have : (List.range 64).all (fun i => leafNm (itS i)) = true := by decide +kernel
  intro i hi
  exact List.all_eq_true.1 this i (List.mem_range.2 hi)
theorem treW_nm {t : Tre} (h : treC t = 0) (i : Nat) (hi : i < t.par.length) : leafNm (treW t i) = true := by
  have hl := treC_len h
  unfold treW
  by_cases h3 : t.names.getD i ByteArray.empty = ByteArray.empty
  · rw [if_pos h3]; exact itS_nm i (by omega)
  · rw [if_neg h3]
    rcases treC_nm h i hi with ⟨_, h2⟩ | ⟨_, h2, _⟩
    · exact absurd h2 h3
    · exact h2
theorem ftS_at {t : Tre} (h : treC t = 0) (i : Nat) (hi : i < t.par.length) : stAt (ftS t) i = dupE t i := by
  have hp := treC_par h
  unfold stAt dupE
  have e1 : (ftS t).names.getD i ByteArray.empty = treW t i := ftN_at t _ i hi
  have e2 : (ftS t).par.getD i [] = if i = 0 then [] else [t.par.getD i 0] := ftP_at t _ i hi
  have e3 : rngB ((ftS t).par.getD i []) i = false := by
    rw [e2]
    by_cases h0 : i = 0
    · rw [if_pos h0]; rfl
    · rw [if_neg h0]
      have := hp.2 i (by omega) hi
      simp only [rngB, List.any_cons, List.any_nil, Bool.or_false]
      rw [decide_eq_false (by omega), decide_eq_false (by omega)]; rfl
  have e4 : incB ((ftS t).par.getD i []) = true := by
    rw [e2]
    unfold incB
    split <;> simp
  rw [if_neg (by rw [e1, treW_nm h i hi]; simp), if_neg (c := rngB _ _ = true) (by rw [e3]; simp), if_neg (c := incB _ = false) (by rw [e4]; simp)]
  rfl
theorem firstErr_congr (f g : Nat → Int) : ∀ n : Nat, (∀ i, i < n → f i = g i) → firstErr f n = firstErr g n
  | 0, _ => rfl
  | n + 1, h => by
    rw [firstErr, firstErr, firstErr_congr f g n (fun i hi => h i (by omega)), h n (by omega)]
theorem ftS_chk {t : Tre} (h : treC t = 0) : stCheck (ftS t) = firstErr (dupE t) t.par.length := by
  have hl := treC_len h
  have e1 : (ftS t).names.length = t.par.length := ftN_len t _
  have e2 : (ftS t).ext.length = t.par.length := ftX_len t _
  have e3 : (ftS t).par.length = t.par.length := ftP_len t _
  unfold stCheck
  rw [if_neg (by omega), if_neg (by omega), if_neg (by omega), e1]
  exact firstErr_congr _ _ _ fun i hi => ftS_at h i hi
theorem dupE_val (t : Tre) : ∀ n : Nat, firstErr (dupE t) n = 0 ∨ firstErr (dupE t) n = 7
  | 0 => .inl rfl
  | n + 1 => by
    rw [firstErr]
    split
    · exact dupE_val t n
    · unfold dupE
      split
      · exact .inr rfl
      · exact .inl rfl
theorem ftE_val (t : Tre) : (treC t ≠ 0 ∧ ftE t = 1) ∨ (treC t = 0 ∧ stCheck (ftS t) = 0 ∧ ftE t = 0) ∨ (treC t = 0 ∧ stCheck (ftS t) ≠ 0 ∧ ftE t = 7) := by
  by_cases h : treC t = 0
  · right
    have e : ftE t = firstErr (dupE t) t.par.length := if_neg (by omega)
    rw [ftS_chk h, e]
    rcases dupE_val t t.par.length with h1 | h1
    · exact .inl ⟨h, h1, h1⟩
    · exact .inr ⟨h, by omega, h1⟩
  · exact .inl ⟨h, if_pos h⟩
theorem containsS_take {xs : List ByteArray} {x : ByteArray} {i j : Nat} (hj : j < i) (hx : j < xs.length) (h : xs.getD j ByteArray.empty = x) : Lib.containsS (xs.take i) x = true := by
  rw [Lib.containsS_iff, ← h, getD_lt _ _ _ hx]
  exact List.mem_take_iff_getElem.2 ⟨j, by omega, rfl⟩
end Go.Proofs.YtdigdmnnjbndlaaGreatDoor
namespace Go.Proofs.YtdigdmnnjbndlaaGreatDoor
abbrev w36e : ByteArray := ⟨#[101, 120, 116, 97, 110, 116]⟩
abbrev w36l : ByteArray := ⟨#[108, 111, 115, 116]⟩
abbrev w36f : ByteArray := ⟨#[102, 114, 111, 109]⟩
def wrd (l : List UInt8) : List ByteArray := (spl 32 l).map bOf
def linW (t : List UInt8) : List (List ByteArray) := (spl 10 t).dropLast.map wrd ++ if (spl 10 t).getLastD [] = [] then [] else [[]]
def okL (ws : List ByteArray) : Bool :=
  decide (2 ≤ ws.length) && (!(Lib.containsS ws ByteArray.empty) && ((decide (ws.getD 1 ByteArray.empty = w36e) || decide (ws.getD 1 ByteArray.empty = w36l)) && (decide (ws.length ≤ 2) || (decide (ws.getD 2 ByteArray.empty = w36f) && decide (ws.length ≠ 3)))))
def nmL (ls : List (List ByteArray)) : List ByteArray := ls.map fun ws => ws.getD 0 ByteArray.empty
def exL (ls : List (List ByteArray)) : List Bool := ls.map fun ws => decide (ws.getD 1 ByteArray.empty = w36e)
def paL (ns : List ByteArray) (ws : List ByteArray) : List Int := (ws.drop 3).map (Lib.idxOfS ns)
def fndB (ns : List ByteArray) (ws : List ByteArray) : Bool := (ws.drop 3).all fun x => Lib.containsS ns x
def psS (t : ByteArray) : Stem := ⟨nmL (linW t.data.toList), exL (linW t.data.toList), (linW t.data.toList).map (paL (nmL (linW t.data.toList)))⟩
def psE (t : ByteArray) : Int :=
  if 65536 < t.size then 4 else if (linW t.data.toList).all okL = false then 3
  else if (linW t.data.toList).all (fndB (nmL (linW t.data.toList))) = false then 6 else stCheck (psS t)
theorem linW_nil : linW [] = [] := rfl
theorem linW_hit (a b : List UInt8) (h : (10 : UInt8) ∉ a) : linW (a ++ 10 :: b) = wrd a :: linW b := by
  unfold linW
  rw [spl_hit 10 b a h]
  obtain ⟨y, t, e⟩ := List.exists_cons_of_ne_nil (spl_ne 10 b)
  rw [e]
  rfl
theorem linW_miss (t : List UInt8) (h : (10 : UInt8) ∉ t) (hn : t ≠ []) : linW t = [[]] := by
  unfold linW
  rw [spl_miss 10 t h]
  show [] ++ (if t = [] then [] else [[]]) = _
  rw [if_neg hn]
  rfl
theorem wrd_ne (l : List UInt8) : wrd l ≠ [] := by
  unfold wrd
  intro h
  exact spl_ne 32 l (List.map_eq_nil_iff.1 h)
theorem wrd_len (l : List UInt8) : (wrd l).length ≤ l.length + 1 := by
  unfold wrd
  rw [List.length_map]
  exact spl_len_le 32 l
theorem wrd_size (l : List UInt8) : ∀ x ∈ wrd l, x.size ≤ l.length := by
  intro x hx
  unfold wrd at hx
  obtain ⟨y, hy, rfl⟩ := List.mem_map.1 hx
  rw [bOf_size]
  exact spl_size_le 32 l y hy
theorem linW_len (t : List UInt8) : (linW t).length ≤ t.length + 1 := by
  unfold linW
  have := spl_len_le 10 t
  have h2 := spl_ne 10 t
  rw [List.length_append, List.length_map, List.length_dropLast]
  have : 0 < (spl 10 t).length := List.length_pos_iff.2 h2
  split <;> simp <;> omega
theorem linW_mem (t : List UInt8) : ∀ ws ∈ linW t, ws.length ≤ t.length + 1 ∧ ∀ x ∈ ws, x.size ≤ t.length := by
  intro ws hw
  unfold linW at hw
  rcases List.mem_append.1 hw with h | h
  · obtain ⟨l, hl, rfl⟩ := List.mem_map.1 h
    have h1 := spl_size_le 10 t l ((List.dropLast_sublist _).subset hl)
    exact ⟨Nat.le_trans (wrd_len l) (by omega), fun x hx => Nat.le_trans (wrd_size l x hx) h1⟩
  · split at h
    · cases h
    · simp only [List.mem_singleton] at h
      subst h
      exact ⟨by simp, fun x hx => absurd hx List.not_mem_nil⟩
theorem idxFromS_in (x y : ByteArray) : ∀ (ns : List ByteArray) (i : Nat), x ∈ ns → Lib.idxFromS (ns ++ [y]) x i = Lib.idxFromS ns x i
  | z :: zs, i, h => by
    rw [List.cons_append]
    simp only [Lib.idxFromS]
    by_cases hz : z = x
    · rw [if_pos hz, if_pos hz]
    · rw [if_neg hz, if_neg hz]
      refine idxFromS_in x y zs (i + 1) ?_
      rcases List.mem_cons.1 h with h | h
      · exact absurd h.symm hz
      · exact h
theorem idxFromS_out (x y : ByteArray) : ∀ (ns : List ByteArray) (i : Nat), x ∉ ns → Lib.idxFromS (ns ++ [y]) x i = if y = x then ((i + ns.length : Nat) : Int) else -1
  | [], i, _ => rfl
  | z :: zs, i, h => by
    rw [List.mem_cons, not_or] at h
    rw [List.cons_append]
    simp only [Lib.idxFromS]
    rw [if_neg (fun e => h.1 e.symm), idxFromS_out x y zs (i + 1) h.2, List.length_cons]
    split
    · congr 1;omega
    · rfl
theorem idxS_app (ns : List ByteArray) (x y : ByteArray) : Lib.idxOfS (ns ++ [y]) x = if Lib.containsS ns x = true then Lib.idxOfS ns x else if y = x then (ns.length : Int) else -1 := by
  unfold Lib.idxOfS
  by_cases h : Lib.containsS ns x = true
  · rw [if_pos h, idxFromS_in x y ns 0 ((Lib.containsS_iff _ _).1 h)]
  · rw [if_neg h, idxFromS_out x y ns 0 (fun e => h ((Lib.containsS_iff _ _).2 e)), Nat.zero_add]
theorem conS_app (ns : List ByteArray) (x y : ByteArray) : Lib.containsS (ns ++ [y]) x = (Lib.containsS ns x || decide (y = x)) := by
  rw [Bool.eq_iff_iff, Bool.or_eq_true, Lib.containsS_iff, Lib.containsS_iff, List.mem_append, List.mem_singleton, decide_eq_true_eq]
  exact ⟨fun h => h.imp id fun e => e.symm, fun h => h.imp id fun e => e.symm⟩
theorem idxS_rng (ns : List ByteArray) (x : ByteArray) (h : Lib.containsS ns x = true) : 0 ≤ Lib.idxOfS ns x ∧ Lib.idxOfS ns x < ns.length := by
  have gen : ∀ (zs : List ByteArray) (i : Nat), Lib.idxFromS zs x i < ((i + zs.length : Nat) : Int) + (if zs.length = 0 then 1 else 0) ∧ (Lib.idxFromS zs x i = -1 ∨ Lib.idxFromS zs x i < ((i + zs.length : Nat) : Int)) := by
    intro zs
    induction zs with
    | nil => intro i; simp only [Lib.idxFromS, List.length_nil, if_true];omega
    | cons z zs ih =>
      intro i
      have := ih (i + 1)
      simp only [Lib.idxFromS, List.length_cons]
      split
      · rw [if_neg (by omega)];omega
      · rw [if_neg (by omega)];omega
  have h1 : 0 ≤ Lib.idxOfS ns x := (Lib.idxOfS_nonneg_iff ns x).2 ((Lib.containsS_iff ns x).1 h)
  have h2 := (gen ns 0).2
  unfold Lib.idxOfS at *
  omega
def plcF (ns : List ByteArray) (x : ByteArray) : Option Int := if Lib.containsS ns x = true then some (Lib.idxOfS ns x) else none
theorem plcF_app (ns : List ByteArray) (x y : ByteArray) : plcF (ns ++ [y]) x = if Lib.containsS ns y = false ∧ y = x then some (ns.length : Int) else plcF ns x := by
  unfold plcF
  rw [idxS_app, conS_app]
  by_cases h : Lib.containsS ns x = true
  · rw [if_pos (by rw [h]; rfl), if_pos h, if_pos h, if_neg]
    rintro ⟨h1, rfl⟩
    rw [h] at h1; cases h1
  · rw [Bool.not_eq_true] at h
    rw [h, Bool.false_or]
    by_cases e : y = x
    · subst e
      simp [h]
    · simp [e]
end Go.Proofs.YtdigdmnnjbndlaaGreatDoor
namespace Go.Proofs.YtdigdmnnjbndlaaGreatDoor
open Go.RowKit Go.Maps
def MxL (w : World) : Prop := ∃ m, w.cell? ⟨1, 0, none⟩ = some (.int .i64 m)
theorem MxL.below {w w' : World} (h : MxL w) (hb : Below w.heap.size w w') : MxL w' := by
  obtain ⟨m, hm⟩ := h
  refine ⟨m, ?_⟩
  rw [← hm]
  have hlt : 1 < w.heap.size := by
    unfold World.cell? at hm
    cases h : w.heap[1]? with
    | none => simp [h] at hm
    | some o => exact (Array.getElem?_eq_some_iff.1 h).1
  unfold World.cell?
  rw [hb.block _ hlt]
theorem mxl_of (w : World) (h : w.ShapedOpen Tryz.prog) : MxL w := cell_of_shapedOpen_int (zero := #[.int .i64 0]) (t := 3) h (of_decide_eq_true (by kernel_rfl)) (by kernel_rfl) rfl (by kernel_rfl) (by kernel_rfl) Tryz.underlying3
set_option maxRecDepth 100000 in
set_option maxHeartbeats 4000000 in
theorem cut_sat (s : ByteArray) (c : UInt8) (w : World) (hm : MxL w) (hs : s.size ≤ 4000000000) :
    SatV Tryz.prog 99 [.string s, .string ⟨#[c]⟩] w (.tuple #[.string (bOf (Lib.cut s.data.toList [c]).1), .string (bOf (Lib.cut s.data.toList [c]).2.1), .bool (Lib.cut s.data.toList [c]).2.2]) :=
  Sat.lib ⟨_, _, Tryz.func99, by kernel_rfl, rfl⟩ fun w1 hb => by
    obtain ⟨m, hm⟩ := hm.below hb
    refine (Tryz.strings_Cut s ⟨#[c]⟩ m w1 (by omega) hm).mono ?_
    rintro e w' ⟨rfl, n, rfl⟩
    exact ⟨_, [], rfl, (Hp.refl w1).drewN n, rfl, rfl⟩
def rW (wv : Value) (ws : List ByteArray) : Res := .row 9 1 wv ws.length (strs ws)
set_option maxRecDepth 100000 in
set_option maxHeartbeats 4000000 in
theorem split_sat (s : ByteArray) (w : World) (hm : MxL w) (hs : s.size ≤ 4000000000) :
    Sat Tryz.prog 100 [.string s, .string ⟨#[32]⟩] w (fun u L => ∃ g, u = .slice (some ⟨g, 0, none⟩) (wrd s.data.toList).length (wrd s.data.toList).length ∧ L = [rW u (wrd s.data.toList)]) :=
  Sat.lib ⟨_, _, Tryz.func100, by kernel_rfl, rfl⟩ fun w1 hb => by
    obtain ⟨m, hm⟩ := hm.below hb
    refine (Tryz.strings_Split s ⟨#[32]⟩ m w1 (by omega) hm (by decide)).mono ?_
    have e1 : Lib.splitB ⟨#[32]⟩ 0 (Lib.countB s ⟨#[32]⟩) s = wrd s.data.toList := spl_splitB 32 _ s rfl
    have e2 : Lib.countB s ⟨#[32]⟩ + 1 = (wrd s.data.toList).length := by
      unfold wrd
      rw [List.length_map]
      exact (spl_count 32 s).symm
    have hl := wrd_len s.data.toList
    have hs2 : s.data.toList.length = s.size := Array.length_toList
    rw [e1, e2]
    rintro e w' ⟨rfl, rfl⟩
    refine ⟨_, _, rfl, ?_, w1.heap.size, rfl, rfl⟩
    have := (Hp.refl w1).lit 9 1 ((wrd s.data.toList).map Value.string).toArray (wrd s.data.toList).length (by unfold maxLen;omega) (by simp)
    simpa [rW, strs] using this
section
variable {P : Program} {n : Nat} {w0 : World} {Q : Exit → Fm → List Res → Prop} {K : Fm → List Res → Prop} {F : Fm} {L : List Res} {m : Md} {Lw : List Res} {ops : Array Oper} {rest : List Oper}
  {d : Option Nat} {ty : TypeId} {pos : String} {aft : Array Edge}
theorem OKx_lookOk {t k e : TypeId} {x y : Operand} {g c : Nat} {Fk : Lit → Option Value} {key : Value} {kl : Lit} {z v : Value} {b : Bool} (i : Nat) (hx : rv n F x = .map (some g)) (hy : rv n F y = key) (hi : L[i]? = some (.obj g (MapIs P k c Fk)))
    (Ky : Keyed P k) (ht : P.underlying t = some (.map k e)) (hz : ∀ w, (zeroValue e).run P w = .ok z w) (hkey : keyOf P k key = some kl) (hl : WideAt.IsKeyLit kl) (hv : (Fk kl).getD z = v) (hb : (Fk kl).isSome = b)
    (kk : OKx P n w0 m ops K rest (updo F d (.tuple #[v, .bool b])) L) : OKx P n w0 m ops K (⟨d, .lookup t x y true, ty, pos, aft, none⟩ :: rest) F L :=
  OKx_still (fun w hp _ _ _ _ => by
    have h := hp.lookOk i hi Ky ht (hz w) hkey hl
    subst hv
    subst hb
    simp [execOp, hx, hy, h, Result.andThen]) kk
end
theorem TKeyS : Keyed Tryz.prog 9 := string_keyed Tryz.underlying9
def litS (s : ByteArray) : Lit := .string s.data.toList
theorem keyS (s : ByteArray) (h : s.size ≤ 140737488355328) : keyOf Tryz.prog 9 (.string s) = some (litS s) := WideMaps.keyOf_string_mk Tryz.underlying9 (by unfold maxLen;omega)
theorem litS_key (s : ByteArray) : WideAt.IsKeyLit (litS s) := trivial
theorem putF_str (F : Lit → Option Value) (a b : ByteArray) (v : Value) : putF F (litS a) v (litS b) = if a = b then some v else F (litS b) := by
  unfold putF
  by_cases h : a = b
  · subst h
    rw [if_pos (WideAt.sameKey_self (litS_key a)), if_pos rfl]
  · rw [if_neg h, if_neg]
    intro e
    unfold litS at e
    simp only [Lit.sameKey, beq_iff_eq] at e
    apply h
    rw [← bOf_data a, ← bOf_data b, e]
end Go.Proofs.YtdigdmnnjbndlaaGreatDoor
namespace Go.Proofs.YtdigdmnnjbndlaaGreatDoor
open Go.RowKit
section
variable {P : Program} {ops : Array Oper} {Q : Exit → Act → World → Prop}
def cls2 (T0 T2 : List Nat) (wf : World) (Cw : World → Prop) (listed : Array Bool) (w : World) : Prop := (started T0 listed = false → w = wf) ∧ (started T2 listed = false → Cw w)
theorem started_hit {T : List Nat} {i : Nat} {listed : Array Bool} (hi : i ∈ T) (hr : i ∈ Region.ready .any ops listed) : started T (listed.setIfInBounds i true) = true := by
  unfold started
  rw [List.any_eq_true]
  refine ⟨i, hi, ?_⟩
  have hlt : i < listed.size := by
    have h0 := (mem_ready.1 hr).1
    rcases Nat.lt_or_ge i listed.size with h' | h'
    · exact h'
    · simp [Array.getElem?_eq_none h'] at h0
  simp [hlt]
theorem anyC_seqB {wf : World} {Cw : World → Prop} (T0 T2 : List Nat) : ∀ (T : List Nat) (lo : List Oper) (listed : Array Bool) (a : Act) (w : World), T.map (fun t => ops[t]?) = lo.map some → (∀ t ∈ T, t ∈ T0 ∧ t ∈ T2) → seqLB ops T listed = true → (started T0 listed = false → w = wf) → (started T2 listed = false → Cw w) → wpListC P ops (fun _ => True) Q lo a w →
    anyC P ops (cls2 T0 T2 wf Cw) Q T.length listed a w
  | [], lo, listed, a, w, hm, _, hB, hs, hs2, h => by
    obtain rfl : lo = [] := by simpa using hm.symm
    exact ⟨⟨hs, hs2⟩, by simpa [seqLB] using hB, h.2⟩
  | t :: T, lo, listed, a, w, hm, hT, hB, hs, hs2, h => by
    cases lo with
    | nil => simp at hm
    | cons o lo =>
      simp only [List.map_cons, List.cons.injEq] at hm
      obtain ⟨h0, hm⟩ := hm
      simp only [seqLB, Bool.and_eq_true, decide_eq_true_eq] at hB
      obtain ⟨_, h⟩ := h
      refine ⟨⟨hs, hs2⟩, fun h1 => (by rw [hB.1] at h1; cases h1), fun i hi => ?_⟩
      have hir := hi
      rw [hB.1] at hi
      have hit : i = t := by simpa using hi
      subst hit
      have hstart : started T0 (listed.setIfInBounds i true) = true := started_hit (hT i (by simp)).1 hir
      have hstart2 : started T2 (listed.setIfInBounds i true) = true := started_hit (hT i (by simp)).2 hir
      unfold wpOp
      simp only [h0]
      have next : ∀ a w, wpListC P ops (fun _ => True) Q lo a w → anyC P ops (cls2 T0 T2 wf Cw) Q T.length (listed.setIfInBounds i true) a w := fun a w h =>
        anyC_seqB T0 T2 T lo _ a w hm (fun t ht => hT t (by simp [ht])) hB.2 (fun h1 => by rw [hstart] at h1; cases h1) (fun h1 => by rw [hstart2] at h1; cases h1) h
      split
      · rename_i hw
        rw [if_pos hw] at h
        exact .inl (Oper.wp_mono next h)
      · rename_i hw
        rw [if_neg hw] at h
        exact next _ _ h
theorem anyC_seqA {wf : World} {Cw : World → Prop} {Qm : Exit → Act → World → Prop} (hQm : ∀ c a w, ¬ Qm (.panic c) a w) (hQo : ¬ LetsOut Qm) (anyQ : ∀ {o : Oper} {a : Act} {w : World} {K : Act → World → Prop}, o.wp P a w K Qm → o.wp P a w K Q) (T0 T2 : List Nat) (l2 : List Oper) (hm2 : T2.map (fun t => ops[t]?) = l2.map some) (hq : ∀ a w, Qm .normal a w → wpListC P ops (fun _ => True) Q l2 a w) (h20 : ∀ t ∈ T2, t ∈ T0) :
    ∀ (T : List Nat) (lo : List Oper) (listed : Array Bool) (a : Act) (w : World), T.map (fun t => ops[t]?) = lo.map some → (∀ t ∈ T, t ∈ T0) → seqLB ops (T ++ T2) listed = true → (started T0 listed = false → w = wf) → wpListC P ops Cw Qm lo a w →
    anyC P ops (cls2 T0 T2 wf Cw) Q (T ++ T2).length listed a w
  | [], lo, listed, a, w, hm, _, hB, hs, h => by
    obtain rfl : lo = [] := by simpa using hm.symm
    exact anyC_seqB T0 T2 T2 l2 listed a w hm2 (fun t ht => ⟨h20 t ht, ht⟩) hB hs (fun _ => h.1) (hq _ _ h.2)
  | t :: T, lo, listed, a, w, hm, hT, hB, hs, h => by
    cases lo with
    | nil => simp at hm
    | cons o lo =>
      simp only [List.map_cons, List.cons.injEq] at hm
      obtain ⟨h0, hm⟩ := hm
      simp only [List.cons_append, seqLB, Bool.and_eq_true, decide_eq_true_eq] at hB
      obtain ⟨hcw, h⟩ := h
      refine ⟨⟨hs, fun _ => hcw⟩, fun h1 => (by rw [hB.1] at h1; cases h1), fun i hi => ?_⟩
      have hir := hi
      rw [hB.1] at hi
      have hit : i = t := by simpa using hi
      subst hit
      have hstart : started T0 (listed.setIfInBounds i true) = true := started_hit (hT i (by simp)) hir
      unfold wpOp
      simp only [h0]
      have next : ∀ a w, wpListC P ops Cw Qm lo a w → anyC P ops (cls2 T0 T2 wf Cw) Q (T ++ T2).length (listed.setIfInBounds i true) a w := fun a w h =>
        anyC_seqA hQm hQo anyQ T0 T2 l2 hm2 hq h20 T lo _ a w hm (fun t ht => hT t (by simp [ht])) hB.2 (fun h1 => by rw [hstart] at h1; cases h1) h
      split
      · rename_i hw
        rw [if_pos hw] at h
        exact .inl (Oper.wp_mono next (anyQ h))
      · rename_i hw
        rw [if_neg hw] at h
        exact next _ _ h
def chainLB2 (T T2 : List Nat) : List (Nat × Bool) → Array Bool → Bool
  | [], listed => seqLB ops T listed
  | (i, t1) :: E, listed => stepB ops T listed i && (cond t1 (T.all fun t => memN t (waiters ops i)) (T2.all fun t => memN t (waiters ops i))) && chainLB2 T T2 E (listed.setIfInBounds i true)
theorem started_none {T : List Nat} {i : Nat} {listed : Array Bool} (hall : T.all (fun t => memN t (waiters ops i)) = true) (hW : ∀ j ∈ waiters ops i, listed.getD j true = false) : started T listed = false := by
  unfold started
  rw [List.any_eq_false]
  intro t ht hb
  have h1 := hW t ((memN_iff _ _).1 (List.all_eq_true.1 hall t ht))
  rcases Nat.lt_or_ge t listed.size with h' | h'
  · simp [h'] at h1 hb; rw [h1] at hb; cases hb
  · simp [Array.getElem?_eq_none h'] at hb
theorem anyC_early2 {wf : World} {Cw : World → Prop} {Kf : Act → Prop} (T T2 : List Nat) (h20 : ∀ t ∈ T2, t ∈ T) (fin : ∀ listed a, seqLB ops T listed = true → Kf a → anyC P ops (cls2 T T2 wf Cw) Q T.length listed a wf) (hsel : Region.noSelect ops = true) (hQ : ∀ c a w, ¬ Q (.panic c) a w) :
    ∀ (E : List (Nat × Bool)) (listed : Array Bool) (a : Act), chainLB2 (ops := ops) T T2 E listed = true → started T listed = false → wpEarly P ops wf Cw Kf E a →
    anyC P ops (cls2 T T2 wf Cw) Q (E.length + T.length) listed a wf
  | [], listed, a, hB, hs, h => by
    rw [List.length_nil, Nat.zero_add]
    exact fin listed a hB h
  | (i, t1) :: E, listed, a, hB, hs, h => by
    simp only [chainLB2, stepB, Bool.and_eq_true, Bool.not_eq_true'] at hB
    obtain ⟨⟨⟨⟨⟨hr, hf⟩, hiT⟩, hW⟩, ht1⟩, hB'⟩ := hB
    obtain ⟨oi, hi, h⟩ := h
    have hr' : i ∈ Region.ready .any ops listed := by simpa using hr
    have hW' : ∀ j ∈ waiters ops i, listed.getD j true = false := fun j hj => by
      have := List.all_eq_true.1 hW j hj
      simpa using this
    have hiT2 : memN i T2 = false := by
      cases hm : memN i T2 with
      | false => rfl
      | true =>
        have := (memN_iff i T).2 (h20 i ((memN_iff i T2).1 hm))
        rw [this] at hiT; cases hiT
    have hs' : started T (listed.setIfInBounds i true) = false := by rw [started_set hiT]; exact hs
    have hC : ∀ listed w, listed.getD i true = false → cls2 T T2 wf Cw (listed.setIfInBounds i true) w → cls2 T T2 wf Cw listed w := fun listed w _ h =>
      ⟨fun h1 => h.1 (by rw [started_set hiT]; exact h1), fun h1 => h.2 (by rw [started_set hiT2]; exact h1)⟩
    rw [show (List.length ((i, t1) :: E)) + T.length = (E.length + T.length) + 1 by simp;omega]
    by_cases hw : Region.wanted oi (yielded ops a.tmps) = true
    · rw [if_pos hw] at h
      obtain ⟨v, hv, hk⟩ := h
      refine anyC_first hi (Region.noSelect_spec hsel) hQ hC _ listed a wf (Region.free_spec hi hf) hr' hW' (.inl ⟨hw, fun listed' w' hiu hWu hc => ?_⟩) (anyC_early2 T T2 h20 fin hsel hQ E _ _ hB' hs' hk)
      refine hv w' ?_
      cases t1 with
      | false => simpa using hc.2 (started_none ht1 hWu)
      | true => simpa using hc.1 (started_none ht1 hWu)
    · rw [if_neg hw] at h
      exact anyC_first hi (Region.noSelect_spec hsel) hQ hC _ listed a wf (Region.free_spec hi hf) hr' hW' (.inr ⟨by simpa using hw, rfl⟩) (anyC_early2 T T2 h20 fin hsel hQ E _ _ hB' hs' h)
def mixB2 (ops : Array Oper) (A B A' T1 T2 : List Nat) : Bool :=
  Region.noSelect ops && Nat.beq (A.length + B.length + A'.length + (T1 ++ T2).length) ops.size && chainLB2 (ops := ops) (T1 ++ T2) T2 ((A.map fun i => (i, false)) ++ ((B.map fun i => (i, true)) ++ (A'.map fun i => (i, false)))) (Array.replicate ops.size false)
theorem wp_region_mix2 {id : Nat} {a : Act} {w : World} {C Cw : World → Prop} {Qm : Exit → Act → World → Prop} (A B A' T1 T2 : List Nat) (la lb la' l1 l2 : List Oper) (hm : P.follows .mixedOrders = true) (hB : mixB2 ops A B A' T1 T2 = true)
    (h1 : A.map (fun t => ops[t]?) = la.map some) (h2 : B.map (fun t => ops[t]?) = lb.map some) (h3 : A'.map (fun t => ops[t]?) = la'.map some) (h4 : T1.map (fun t => ops[t]?) = l1.map some) (h5 : T2.map (fun t => ops[t]?) = l2.map some)
    (hQ : ∀ c a w, ¬ Q (.panic c) a w) (hQm : ∀ c a w, ¬ Qm (.panic c) a w) (hQo : ¬ LetsOut Qm) (anyQ : ∀ {o : Oper} {a : Act} {w : World} {K : Act → World → Prop}, o.wp P a w K Qm → o.wp P a w K Q) (hq : ∀ a w, Qm .normal a w → wpListC P ops (fun _ => True) Q l2 a w) (hc : C w.drew) (hcw : Cw w.drew)
    (h : wpPure P ops Cw (fun a1 => wpPure P ops C (fun a2 => wpPure P ops Cw (fun a3 => wpListC P ops Cw Qm l1 a3 w.drew) la' a2) lb a1) la a) : (Code.region id ops true).wp P Q a w := by
  simp only [mixB2, Bool.and_eq_true] at hB
  obtain ⟨⟨hsel, hsz⟩, hch⟩ := hB
  have hsz' := Nat.eq_of_beq_eq_true hsz
  refine wp_region_any hm ?_
  have e := anyC_early2 (P := P) (ops := ops) (Q := Q) (wf := w.drew) (Cw := Cw) (Kf := fun a3 => wpListC P ops Cw Qm l1 a3 w.drew) (T1 ++ T2) T2 (fun t ht => List.mem_append_right _ ht)
    (fun listed a hB h => anyC_seqA hQm hQo anyQ (T1 ++ T2) T2 l2 h5 hq (fun t ht => List.mem_append_right _ ht) T1 l1 listed a _ h4 (fun t ht => List.mem_append_left _ ht) hB (fun _ => rfl) h) hsel hQ _ (Array.replicate ops.size false) a hch (by
    unfold started
    rw [List.any_eq_false]
    intro t _
    simp only [Array.getD_eq_getD_getElem?, Array.getElem?_replicate]
    split <;> simp) (by
    refine wpEarly_append _ _ a (wpEarly_of_pure false (fun w hw => by simpa using hw) A la a h1 ?_)
    have mono : ∀ {C : World → Prop} {Q1 Q2 : Act → Prop} (hq : ∀ a, Q1 a → Q2 a) (l : List Oper) (a : Act), wpPure P ops C Q1 l a → wpPure P ops C Q2 l a := by
      intro C Q1 Q2 hq l
      induction l with
      | nil => intro a h; exact hq _ h
      | cons o l ih =>
        intro a h
        unfold wpPure at h ⊢
        split
        · rename_i hw
          rw [if_pos hw] at h
          obtain ⟨v, h1, h2⟩ := h
          exact ⟨v, h1, ih _ h2⟩
        · rename_i hw
          rw [if_neg hw] at h
          exact ih _ h
    refine mono (fun a1 h => wpEarly_append _ _ a1 (wpEarly_of_pure true (fun w' hw => by simp only [if_true] at hw; subst hw; exact hc) B lb a1 h2 (mono (fun a2 h => wpEarly_of_pure false (fun w hw => by simpa using hw) A' la' a2 h3 h) lb a1 h))) la a h)
  have hlen : (List.map (fun i => (i, false)) A ++ (List.map (fun i => (i, true)) B ++ List.map (fun i => (i, false)) A')).length + (T1 ++ T2).length = ops.size := by
    simp only [List.length_append, List.length_map] at hsz' ⊢;omega
  rw [hlen] at e
  exact anyC_any _ _ _ _ e
end
theorem OK.mk' {P : Program} {n : Nat} {w0 : World} {Q : Exit → Fm → List Res → Prop} {F : Fm} {L : List Res} {c : Code} (h : ∀ w a, Fr n a F → Hp w0.heap.size w0 w L → c.wp P (lift n w0 Q) a w) : OK P n w0 Q c F L := by unfold OK; exact h
theorem OKx.useP {P : Program} {n : Nat} {w0 : World} {K : Fm → List Res → Prop} {F : Fm} {L : List Res} {ops : Array Oper} {rest : List Oper} (h : OKx P n w0 .pure ops K rest F L) : ∀ a, Fr n a F → wpPure P ops (fun w => Hp w0.heap.size w0 w L) (fun a' => ∃ F', Fr n a' F' ∧ K F' L) rest a := by unfold OKx at h; exact h
section
variable {P : Program} {n : Nat} {w0 : World} {Q : Exit → Fm → List Res → Prop} {F : Fm} {L : List Res}
theorem OK_mix2 (A B A' T1 T2 : List Nat) (Lw : List Res) {id : Nat} {l la lb la' l1 l2 : List Oper} (hm : P.follows .mixedOrders = true) (hB : mixB2 l.toArray A B A' T1 T2 = true) (hI : ((A ++ (B ++ (A' ++ (T1 ++ T2)))).all fun i => Nat.ble (i + 1) l.length) = true) (e : Ent w0 L Lw) (hA : pickO l A = la) (hB' : pickO l B = lb) (hA' : pickO l A' = la') (hT1 : pickO l T1 = l1) (hT2 : pickO l T2 = l2)
    (h : OKx P n w0 .pure l.toArray (fun F1 _ => OKx P n w0 .pure l.toArray (fun F2 _ => OKx P n w0 .pure l.toArray (fun F3 _ => OKx P n w0 (.seq Lw) l.toArray (fun F4 L4 => OKx P n w0 (.seq []) l.toArray (Q .normal) l2 F4 L4) l1 F3 L) la' F2 Lw) lb F1 L) la F Lw) : OK P n w0 Q (.region id l.toArray true) F L := by
  subst hA hB' hA' hT1 hT2
  refine OK.mk' fun w a hf hp => ?_
  simp only [List.all_append, Bool.and_eq_true] at hI
  have key := wp_region_mix2 (id := id) (P := P) (ops := l.toArray) (a := a) (w := w) (Q := liftN n w0 (Q .normal)) (Qm := liftN n w0 (fun F4 L4 => OKx P n w0 (.seq []) l.toArray (Q .normal) (pickO l T2) F4 L4)) (C := fun w => Hp w0.heap.size w0 w L) (Cw := fun w => Hp w0.heap.size w0 w Lw) A B A' T1 T2 _ _ _ _ _ hm hB (pickO_at l A hI.1) (pickO_at l B hI.2.1) (pickO_at l A' hI.2.2.1) (pickO_at l T1 hI.2.2.2.1) (pickO_at l T2 hI.2.2.2.2)
    (fun c a w h => by cases h.1) (fun c a w h => by cases h.1) (by rintro ⟨a, w, h, _⟩; cases h) (fun h => wp_anyQ (fun c a w h => by cases h.1) (by rintro ⟨a, w, h, _⟩; cases h) h) ?_ hp.drew (e.use _ hp.drew) ?_
  · refine wp_mono key ?_
    rintro e a' w' ⟨rfl, F', L', h1, h2, h3⟩
    exact ⟨F', L', h1, h2, h3⟩
  · rintro a' w' ⟨_, F', L', h1, h2, h3⟩
    have h4 := h3.use w' a' h1 h2
    have weak : ∀ (l' : List Oper) (a : Act) (w : World), wpListC P l.toArray (fun w => Hp w0.heap.size w0 w []) (liftN n w0 (Q .normal)) l' a w → wpListC P l.toArray (fun _ => True) (liftN n w0 (Q .normal)) l' a w := by
      intro l'
      induction l' with
      | nil => intro a w h; exact ⟨trivial, h.2⟩
      | cons o l' ih =>
        intro a w h
        obtain ⟨_, h⟩ := h
        refine ⟨trivial, ?_⟩
        split
        · rename_i hw
          rw [if_pos hw] at h
          exact Oper.wp_mono (fun a w h => ih a w h) h
        · rename_i hw
          rw [if_neg hw] at h
          exact ih _ _ h
    exact weak _ _ _ h4
  · have mono : ∀ {C : World → Prop} {Q1 Q2 : Act → Prop} (hq : ∀ a, Q1 a → Q2 a) (l' : List Oper) (a : Act), wpPure P l.toArray C Q1 l' a → wpPure P l.toArray C Q2 l' a := by
      intro C Q1 Q2 hq l'
      induction l' with
      | nil => intro a h; exact hq _ h
      | cons o l' ih =>
        intro a h
        unfold wpPure at h ⊢
        split
        · rename_i hw
          rw [if_pos hw] at h
          obtain ⟨v, h1, h2⟩ := h
          exact ⟨v, h1, ih _ h2⟩
        · rename_i hw
          rw [if_neg hw] at h
          exact ih _ h
    refine mono ?_ _ a (h.useP a hf)
    rintro a1 ⟨F1, hf1, h⟩
    refine mono ?_ _ a1 (h.useP a1 hf1)
    rintro a2 ⟨F2, hf2, h⟩
    refine mono ?_ _ a2 (h.useP a2 hf2)
    rintro a3 ⟨F3, hf3, h⟩
    exact h.use _ a3 hf3 hp.drew
end
end Go.Proofs.YtdigdmnnjbndlaaGreatDoor
namespace Go.Proofs.YtdigdmnnjbndlaaGreatDoor
open Go.RowKit
def fen : Option Nat → Fence
  | none => Fence.wide
  | some l => Fence.wide.inRound l
section
variable {P : Program} {ops : Array Oper}
theorem fen_fn (ro : Option Nat) (f : FuncId) : (fen ro).fn f := by cases ro <;> trivial
theorem fen_depth (ro : Option Nat) : (fen ro).depth = none := by cases ro <;> rfl
theorem fen_calls {ro : Option Nat} {f : FuncId} {args : Array Value} {w : World} {R : Ending → World → Prop} (h : Calls P f args w R) : CallsIn (fen ro) 0 P f args w R := by
  cases ro with
  | none => exact callsIn_wide.2 h
  | some l => exact CallsIn.inRound l (callsIn_wide.2 h)
theorem fen_rows {ro : Option Nat} {row : String} {args : Array Value} {w : World} {R : Value → World → Prop} (h : Rows P row args w R) : RowsIn (fen ro) 0 P row args w R := by
  have h1 : RowsIn Fence.wide 0 P row args w R := fun c cs _ => let ⟨v, w', r, s⟩ := h c cs; ⟨v, w', r, stepsIn_wide.2 s⟩
  cases ro with
  | none => exact h1
  | some l => exact fun c cs hr => h1 c cs (room_wide _)
def noDef (o : Oper) : Bool := match o.op with
  | .defer _ => false
  | _ => true
theorem noDef_ne {o : Oper} (h : noDef o = true) : ∀ c, o.op ≠ .defer c := by
  intro c e
  unfold noDef at h
  rw [e] at h
  cases h
theorem oper_in {ro : Option Nat} {o : Oper} {a : Act} {w : World} {K : Act → World → Prop} {Q Q' : Exit → Act → World → Prop} (hn : noDef o = true) (hp : ∀ c a w, ¬ Q (.panic c) a w) (ho : ¬ LetsOut Q) (h : o.wp P a w K Q) : o.wpIn (fen ro) 0 P a w K Q' := by
  refine ⟨fun f _ => fen_fn ro f, ?_⟩
  rw [Oper.semAt_eq _ _ _ (noDef_ne hn)]
  unfold Oper.wp at h
  have hd : (fen ro).depth.isSome = true → 1 ≤ 0 := by rw [fen_depth]; intro h; cases h
  generalize (execOp a.eval o).run P w = r at *
  cases r with
  | ok nx w' =>
    cases nx with
    | value v => exact h
    | skip => exact h
    | defer d => exact h
    | enter f args =>
      refine ⟨hd, fen_calls (Calls.mono h fun e w'' h => ?_)⟩
      cases e with
      | returned v => exact h
      | panicked c => exact absurd h (hp _ _ _)
      | outgrown => exact absurd h ho
    | row r args => exact ⟨hd, fen_rows h⟩
    | _ => exact h.elim
  | halt x w' =>
    cases x with
    | panic v => exact absurd h (hp _ _ _)
    | _ => exact h.elim
theorem list_in {ro : Option Nat} {C : World → Prop} {Q Q' : Exit → Act → World → Prop} (hp : ∀ c a w, ¬ Q (.panic c) a w) (ho : ¬ LetsOut Q) (rest : List Oper) (hq : ∀ a w, Q .normal a w → wpListIn (fen ro) 0 P ops Q' rest a w) :
    ∀ (l : List Oper) (a : Act) (w : World), l.all noDef = true → wpListC P ops C Q l a w → wpListIn (fen ro) 0 P ops Q' (l ++ rest) a w
  | [], a, w, _, h => hq a w h.2
  | o :: l, a, w, hn, h => by
    obtain ⟨_, h⟩ := h
    simp only [List.all_cons, Bool.and_eq_true] at hn
    rw [List.cons_append]
    unfold wpListIn
    split
    · rename_i hw
      rw [if_pos hw] at h
      exact oper_in hn.1 hp ho (Oper.wp_mono (fun a w h => list_in hp ho rest hq l a w hn.2 h) h)
    · rename_i hw
      rw [if_neg hw] at h
      exact ⟨fun f _ => fen_fn ro f, list_in hp ho rest hq l _ w hn.2 h⟩
end
section
variable (P : Program) (n : Nat) (w0 : World) (l : Nat)
def OKr (Q : Exit → Fm → List Res → Prop) (c : Code) (F : Fm) (L : List Res) : Prop :=
  ∀ w a, Fr n a F → Hp w0.heap.size w0 w L → c.wpIn (fen (some l)) 0 P (lift n w0 Q) a w
end
section
variable {P : Program} {n : Nat} {w0 : World} {ro : Nat} {Q : Exit → Fm → List Res → Prop} {K : Fm → List Res → Prop} {F : Fm} {L : List Res}
theorem OKr_seq {a b : Code} (h : OKr P n w0 ro (thenQ (fun F L => OKr P n w0 ro Q b F L) Q) a F L) : OKr P n w0 ro Q (.seq a b) F L := by
  intro w ac hf hp
  refine wpIn_seq (wpIn_mono (h w ac hf hp) ?_)
  rintro e a' w' ⟨F', L', h1, h2, h3⟩
  unfold thenQ at h3
  cases e with
  | normal => exact h3 w' a' h1 h2
  | _ => exact ⟨F', L', h1, h2, h3⟩
theorem OKr_skip (h : Q .normal F L) : OKr P n w0 ro Q .skip F L := fun _ _ hf hp => wpIn_skip ⟨F, L, hf, hp, h⟩
theorem OKr_exit {id : Nat} (h : Q (.exit id) F L) : OKr P n w0 ro Q (.exit id) F L := fun _ _ hf hp => wpIn_exit ⟨F, L, hf, hp, h⟩
theorem OKr_ret (h : Q .ret F L) : OKr P n w0 ro Q .ret F L := fun _ _ hf hp => wpIn_ret ⟨F, L, hf, hp, h⟩
theorem OKr_condT {c : Operand} {x y : Code} (hc : rv n F c = .bool true) (h : OKr P n w0 ro Q x F L) : OKr P n w0 ro Q (.cond c x y) F L :=
  fun w a hf hp => wpIn_cond_true (by rw [hf.eval]; exact hc) (h w a hf hp)
theorem OKr_condF {c : Operand} {x y : Code} (hc : rv n F c = .bool false) (h : OKr P n w0 ro Q y F L) : OKr P n w0 ro Q (.cond c x y) F L :=
  fun w a hf hp => wpIn_cond_false (by rw [hf.eval]; exact hc) (h w a hf hp)
theorem OKr_block {id : Nat} {c : Code} (h : OKr P n w0 ro (blockQ id Q) c F L) : OKr P n w0 ro Q (.block id c) F L := by
  intro w ac hf hp
  refine wpIn_block (wpIn_mono (h w ac hf hp) ?_)
  rintro e a' w' ⟨F', L', h1, h2, h3⟩
  cases e with
  | exit id' =>
    simp only [blockQ] at h3
    simp only [Exit.inBlock]
    by_cases he : id' = id
    · subst he
      rw [if_pos rfl]
      simp only [Nat.beq_refl, cond_true] at h3
      exact ⟨F', L', h1, h2, h3⟩
    · rw [if_neg he]
      have : Nat.beq id' id = false := beq_ne he
      rw [this] at h3
      exact ⟨F', L', h1, h2, h3⟩
  | _ =>
    unfold blockQ at h3
    exact ⟨F', L', h1, h2, h3⟩
theorem liftN_noPanic : ∀ c a w, ¬ liftN n w0 K (.panic c) a w := fun c a w h => by cases h.1
theorem liftN_noOut : ¬ LetsOut (liftN n w0 K) := by rintro ⟨a, w, h, _⟩; cases h
theorem OKr_region {id : Nat} {l : List Oper} (hn : l.all noDef = true) (h : OKx P n w0 (.seq []) l.toArray (Q .normal) l F L) : OKr P n w0 ro Q (.region id l.toArray false) F L := by
  intro w a hf hp
  have h1 := list_in (P := P) (ops := l.toArray) (ro := some ro) (Q := liftN n w0 (Q .normal)) (Q' := lift n w0 Q) liftN_noPanic liftN_noOut [] (fun a w h => (by obtain ⟨_, F', L', h1, h2, h3⟩ := h; exact ⟨F', L', h1, h2, h3⟩)) l a w hn (h.use w a hf hp)
  rw [List.append_nil] at h1
  exact wpIn_region_lit h1
end
section
variable {P : Program} {n : Nat} {w0 : World} {ro : Nat} {Q : Exit → Fm → List Res → Prop} {F : Fm} {L : List Res} {c : Code}
theorem OKr.use (h : OKr P n w0 ro Q c F L) : ∀ w a, Fr n a F → Hp w0.heap.size w0 w L → c.wpIn (fen (some ro)) 0 P (lift n w0 Q) a w := h
end
attribute [irreducible] OKr
def SatY (P : Program) (l : Nat) (args : List Value) (w0 : World) (L : List Res) (R : Value → List Res → Prop) : Prop :=
  ∀ w, Hp w0.heap.size w0 w L → ∃ fn tmps assign body, (Instr.yield l args.toArray).run P w = .ok (.round l fn tmps assign body) w ∧
    RoundIn Fence.wide 0 P l fn tmps assign body w fun e w' => ∃ v L', e = .returned v ∧ Hp w0.heap.size w0 w' L' ∧ R v L'
section
variable {P : Program} {n : Nat} {w0 : World} {Q : Exit → Fm → List Res → Prop} {F : Fm} {L : List Res}
theorem OK_regionY (k : Nat) {id : Nat} {l : List Oper} (l1 l2 : List Oper) {d : Option Nat} {fo : Operand} {args : Array Operand} {tt : Array TypeId} {ty : TypeId} {pos : String} {aft : Array Edge} (hl : l = l1 ++ ⟨d, .call { callee := .value fo, args := args, argTypes := tt }, ty, pos, aft, none⟩ :: l2) (hn : (l1.all noDef && l2.all noDef) = true)
    (h : OKx P n w0 (.seq []) l.toArray (fun F1 L1 => ∃ (y : Nat) (av : List Value) (R : Value → List Res → Prop), rv n F1 fo = .func (.yield y) #[] #[] ∧ args.toList.map (rv n F1) = av ∧ SatY P y av w0 L1 R ∧
      ∀ v L', R v L' → OKx P n w0 (.seq []) l.toArray (Q .normal) l2 (updo F1 d v) L') l1 F L) : OK P n w0 Q (.region id l.toArray false) F L := by
  rw [Bool.and_eq_true] at hn
  refine OK.mk' fun w a hf hp => (wpIn_wide (n := 0)).1 (wpIn_region_lit ?_)
  have key := list_in (P := P) (ops := l.toArray) (ro := none) (C := fun w => Hp w0.heap.size w0 w []) (Q := liftN n w0 _) (Q' := lift n w0 Q) liftN_noPanic liftN_noOut (⟨d, .call { callee := .value fo, args := args, argTypes := tt }, ty, pos, aft, none⟩ :: l2) ?_ l1 a w hn.1 (h.use w a hf hp)
  · rw [← hl] at key; exact key
  · rintro a1 w1 ⟨_, F1, L1, hf1, hp1, y, av, R, h1, h2, hy, h3⟩
    obtain ⟨fn, tmps, assign, body, hrun, hround⟩ := hy w1 hp1
    unfold wpListIn
    rw [if_pos (by rfl)]
    refine ⟨fun f _ => trivial, ?_⟩
    have hexec : ((⟨d, .call { callee := .value fo, args := args, argTypes := tt }, ty, pos, aft, none⟩ : Oper).semAt (fen none).round a1.eval).run P w1 = .ok (.round y fn tmps assign body) w1 := by
      have e : Array.map (rv n F1) args = av.toArray := by rw [← Array.toList_inj, ← h2]; simp
      have hr : (fen none).round = none := rfl
      rw [hr, Oper.semAt_none, hf1.eval]
      simp only [execOp, resolve, h1, Deferred.ofValue, Sem.run_bind, Sem.run_pure, Result.andThen, invoke, Array.empty_append, Array.append_empty, e, hrun]
    rw [hexec]
    refine ⟨fun h => (by cases h), hround.mono ?_⟩
    rintro e w2 ⟨v, L', rfl, hp2, hR⟩
    have h4 := list_in (P := P) (ops := l.toArray) (ro := none) (Q := liftN n w0 (Q .normal)) (Q' := lift n w0 Q) liftN_noPanic liftN_noOut [] (fun a w h => (by obtain ⟨_, F', L', h1, h2, h3⟩ := h; exact ⟨F', L', h1, h2, h3⟩)) l2 _ w2 hn.2 ((h3 v L' hR).use w2 _ (hf1.put d v) hp2)
    rw [List.append_nil] at h4
    exact h4
end
end Go.Proofs.YtdigdmnnjbndlaaGreatDoor
