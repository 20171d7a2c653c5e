/-
  Part 9 of the proof: Gb, Char, Stem, De39, Gc07. No statement of the seat is proved here.
-/
import Derived.Test.YthnlnffmmioapaaDoorMHUs278
import Derived.Deep.Light
import Derived.Deep.QuietTactic
import Derived.BigQuiet
namespace Go.Proofs.YthnlnffmmioapaaDoor
open Go.RowKit
def BytesAt (l : List UInt8) (o : Obj) : Prop := ∃ C e fz, o = .cells C e fz ∧ ∀ (j : Nat) (b : UInt8), l[j]? = some b → C[j]? = some (.int .u8 (b.toNat : Int))
theorem bOf_app7 (a b : List UInt8) : bOf a ++ bOf b = bOf (a ++ b) := by
  apply ByteArray.ext
  simp [bOf]
section
variable {P : Program} {n : Nat} {w0 : World} {K : Fm → List Res → Prop} {F : Fm} {L : List Res} {m : Md} {Lw : List Res} {ops : Array Oper} {rest : List Oper} {d : Option Nat} {ty : TypeId} {pos : String} {aft : Array Edge}
theorem OKx_convSB {src dst e : TypeId} {x : Operand} {s : List UInt8} [hE : Keeps w0 L Lw] (hx : rv n F x = .string (bOf s)) (hs : P.underlying src = some .string) (hd : P.underlying dst = some (.slice e)) (he : P.underlying e = some (.int .u8))
    (kk : ∀ g c, OKx P n w0 (.seq Lw) ops K rest (updo F d (.slice (some ⟨g, 0, none⟩) s.length c)) (.obj g (BytesAt s) :: L)) :
    OKx P n w0 (.seq Lw) ops K (⟨d, .convert src dst x, ty, pos, aft, none⟩ :: rest) F L := by
  refine OKx_act hE.ent fun w hp => ⟨_, w.drew.alloc (.cells (bytesRow (bOf s) (grownCap w (bOf s).size 0 e)) e ((bytesRow (bOf s) (grownCap w (bOf s).size 0 e)).size, (bytesRow (bOf s) (grownCap w (bOf s).size 0 e)).size + 1)), _, ?_, ?_, kk w.heap.size (grownCap w (bOf s).size 0 e)⟩
  · simp only [execOp, hx, Sem.run_bind, run_bytes_of_string w src dst e (bOf s) hs hd he, Result.andThen]
    rfl
  · refine hp.drew.fresh (r := .obj w.heap.size (BytesAt s)) ⟨hp.base, _, heap_alloc_new w.drew _, _, _, _, rfl, ?_⟩ ((Below.refl _ _).alloc (Nat.le_refl _) _) (fun j hj => by simp [Res.blk] at hj; subst hj; exact Nat.le_refl _)
    intro j b hj
    have hlt := (List.getElem?_eq_some_iff.1 hj).1
    unfold bytesRow
    rw [Array.getElem?_append_left (by simpa [bOf] using hlt)]
    simp [bOf, hj]
theorem OKx_ldO {t : TypeId} {z : Value} [T : TOne P t z] {x : Operand} {g k : Nat} {s : List UInt8} (i : Nat) (hx : rv n F x = .pointer (some ⟨g, k, none⟩)) (hi : L[i]? = some (.obj g (BytesAt s))) (hk : k < s.length)
    (kk : OKx P n w0 m ops K rest (updo F d (.int .u8 ((s.getD k 0).toNat : Int))) L) : OKx P n w0 m ops K (⟨d, .load t x, ty, pos, aft, none⟩ :: rest) F L :=
  OKx_still (fun w hp _ _ _ _ => run_load1 T hx (by
    obtain ⟨_, o, ho, C, e, fz, rfl, hC⟩ : w0.heap.size ≤ g ∧ ∃ o, w.heap[g]? = some o ∧ BytesAt s o := hp.ok _ (List.mem_of_getElem? hi)
    have := hC k (s.getD k 0) (by rw [getD_lt _ _ _ hk]; exact List.getElem?_eq_getElem hk)
    simp [World.cell?, ho, this]) _ _ _ _) kk
theorem OKx_sslL7 {t : TypeId} [T : TStr P t] {x lo : Operand} {s r : List UInt8} {l : Nat} {k : IntKind} (hx : rv n F x = .string (bOf s)) (hl : rv n F lo = .int k (l : Int)) (h1 : l ≤ s.length) (hr : s.drop l = r)
    (kk : OKx P n w0 m ops K rest (updo F d (.string (bOf r))) L) : OKx P n w0 m ops K (⟨d, .slice t x (some lo) none none, ty, pos, aft, none⟩ :: rest) F L :=
  OKx_still (fun w _ _ _ _ _ => by
    have h2 := run_sliceAt_string (P := P) (w := w) t (.string (bOf s)) (some (.int k (l : Int))) none none T.und
    have h3 := run_slice_string_l (P := P) w t (bOf s) T.und k (l : Int) (by omega) (by rw [bOf_size];omega)
    have e : (bOf s).extract l (bOf s).size = bOf r := by
      rw [Lib.extract_eq, data_bOf, bOf_size, List.take_of_length_le (by simp), hr]
      rfl
    rw [Int.toNat_natCast, e] at h3
    rw [h3] at h2
    simp [execOp, hx, hl, h2, Result.andThen]) kk
theorem OKx_sadd7 {t ut : TypeId} {x y : Operand} {a b c : List UInt8} (hx : rv n F x = .string (bOf a)) (hy : rv n F y = .string (bOf b)) (hl : a.length + b.length ≤ 9223372036854775807) (hc : a ++ b = c)
    (k : OKx P n w0 m ops K rest (updo F d (.string (bOf c))) L) : OKx P n w0 m ops K (⟨d, .binOp .add t x y ut, ty, pos, aft, none⟩ :: rest) F L := by
  refine OKx_sadd hx hy hl ?_
  rw [bOf_app7, hc]
  exact k
theorem OKx_sslLH {t : TypeId} [T : TStr P t] {x lo hi : Operand} {s r : List UInt8} {l h : Nat} {k k' : IntKind} (hx : rv n F x = .string (bOf s)) (hl : rv n F lo = .int k (l : Int)) (hh : rv n F hi = .int k' (h : Int)) (h1 : l ≤ h) (h2 : h ≤ s.length) (hr : (s.take h).drop l = r)
    (kk : OKx P n w0 m ops K rest (updo F d (.string (bOf r))) L) : OKx P n w0 m ops K (⟨d, .slice t x (some lo) (some hi) none, ty, pos, aft, none⟩ :: rest) F L :=
  OKx_still (fun w _ _ _ _ _ => by
    have h2' := run_sliceAt_string (P := P) (w := w) t (.string (bOf s)) (some (.int k (l : Int))) (some (.int k' (h : Int))) none T.und
    have h3 := run_slice_string_if (P := P) (w := w) t (bOf s) k k' (l : Int) (h : Int) T.und
    have e : (bOf s).extract l h = bOf r := by
      rw [Lib.extract_eq, data_bOf, ← hr, List.drop_take]
      rfl
    rw [if_pos ⟨by omega, by rw [bOf_size];omega⟩, if_pos ⟨by omega, by omega⟩, Int.toNat_natCast, Int.toNat_natCast, e] at h3
    rw [h3] at h2'
    simp [execOp, hx, hl, hh, h2', Result.andThen]) kk
end
theorem idxB_eq (s : List UInt8) (c : UInt8) : Lib.indexByte s c = if (s.takeWhile (fun x => decide (x ≠ c))).length = s.length then -1 else ((s.takeWhile (fun x => decide (x ≠ c))).length : Int) := by
  induction s with
  | nil => rfl
  | cons b l ih =>
    unfold Lib.indexByte
    by_cases hb : b = c
    · subst hb
      simp
    · have hb' : (b == c) = false := beq_eq_false_iff_ne.2 hb
      have hd : decide (b ≠ c) = true := decide_eq_true hb
      rw [List.takeWhile_cons, hb', if_neg (by decide), if_pos hd, ih, List.length_cons, List.length_cons]
      by_cases h : (l.takeWhile (fun x => decide (x ≠ c))).length = l.length
      · rw [if_pos h]
        exact (if_pos (congrArg (· + 1) h)).symm
      · rw [if_neg h]
        refine Eq.trans ?_ (if_neg (fun hh => h (Nat.succ.inj hh))).symm
        have : ¬ ((((l.takeWhile (fun x => decide (x ≠ c))).length : Int) == -1) = true) := by
          rw [beq_iff_eq];omega
        rw [if_neg this]
        rfl
theorem idxB_mem (s : List UInt8) (c : UInt8) : (0 ≤ Lib.indexByte s c) ↔ c ∈ s := by
  induction s with
  | nil => simp [Lib.indexByte]
  | cons b l ih =>
    unfold Lib.indexByte
    by_cases hb : b = c
    · subst hb
      simp
    · have hb' : (b == c) = false := beq_eq_false_iff_ne.2 hb
      rw [hb', if_neg (by decide), List.mem_cons, ← ih]
      have hg := Lib.indexByte_ge l c
      by_cases h : (Lib.indexByte l c == -1) = true
      · rw [if_pos h]
        rw [beq_iff_eq] at h
        constructor
        · omega
        · rintro (h1 | h1)
          · exact absurd h1.symm hb
          · omega
      · rw [if_neg h]
        rw [beq_iff_eq] at h
        constructor
        · intro; right;omega
        · intro;omega
set_option maxRecDepth 100000 in
set_option maxHeartbeats 4000000 in
theorem idxByte_sat (s : List UInt8) (c : UInt8) (w : World) : SatV Tryd.prog 85 [.string (bOf s), .int .u8 (c.toNat : Int)] w (.int .i64 (Lib.indexByte s c)) :=
  Sat.lib ⟨_, _, Tryd.func85, by kernel_rfl, rfl⟩ fun w1 hb => by
    refine (Tryd.strings_IndexByte (bOf s) (c.toNat : Int) w1).mono ?_
    rintro e w' ⟨rfl, rfl⟩
    refine ⟨_, [], rfl, Hp.refl _, ?_, rfl⟩
    have hc : (c.toNat : Int).toNat.toUInt8 = c := by
      rw [Int.toNat_natCast]
      exact UInt8.ofNat_toNat
    rw [hc, data_bOf]
set_option maxRecDepth 100000 in
set_option maxHeartbeats 4000000 in
theorem contains_one_sat (s : List UInt8) (c : UInt8) (w : World) : SatV Tryd.prog 58 [.string (bOf s), .string ⟨#[c]⟩] w (.bool (decide (c ∈ s))) :=
  Sat.lib ⟨_, _, Tryd.func58, by kernel_rfl, rfl⟩ fun w1 hb => by
    refine (Tryd.strings_Contains_one (bOf s) c w1).mono ?_
    rintro e w' ⟨rfl, rfl⟩
    refine ⟨_, [], rfl, Hp.refl _, ?_, rfl⟩
    rw [data_bOf]
    exact congrArg Value.bool (decide_eq_decide.2 (idxB_mem s c))
end Go.Proofs.YthnlnffmmioapaaDoor
namespace Go.Proofs.YthnlnffmmioapaaDoor
open Go.RowKit
abbrev byts (s : ByteArray) : List UInt8 := s.data.toList
theorem byts_len (s : ByteArray) : (byts s).length = s.size := Array.length_toList
theorem byts_at (s : ByteArray) (k : Nat) (h : k < s.size) : (byts s)[k]'(by rw [byts_len]; exact h) = s[k] := rfl
def kindB (c : UInt8) : Int := kind c.toNat
theorem byte_bd (c : UInt8) : (0 : Int) ≤ (c.toNat : Int) ∧ (c.toNat : Int) ≤ 255 := by
  have := c.toNat_lt
  omega
def alnum (c : UInt8) : Bool := kindB c == 1 || kindB c == 3
def lets (l : List UInt8) : Nat := l.countP alnum
theorem lets_take (s : ByteArray) (k : Nat) (h : k < s.size) : lets ((byts s).take (k + 1)) = lets ((byts s).take k) + if alnum s[k] then 1 else 0 := by
  unfold lets
  rw [List.take_succ_eq_append_getElem (by rw [byts_len]; exact h), List.countP_append, byts_at s k h]
  by_cases ha : alnum s[k] = true
  · simp [ha]
  · simp [ha]
theorem lets_le (l : List UInt8) : lets l ≤ l.length := List.countP_le_length
theorem kindB_any (c : UInt8) (w : World) :
    Calls Tryd.prog 78 #[.int .u8 (c.toNat : Int)] w fun e w' => e = .returned (.int .i64 (kindB c)) ∧ w = w' :=
  kind_any _ (byte_bd c).1 (byte_bd c).2 w
set_option maxHeartbeats 1000000 in
theorem letters_any (s : ByteArray) (w : World) (hs : s.size ≤ 140737488355328) :
    Calls Tryd.prog 64 #[.string s] w fun e w' => e = .returned (.int .i64 (lets (byts s) : Nat)) ∧ w = w' := by
  go_enter Tryd.func64, Tryd.ntmps64
  go_wp2
  go_loop [3, 8] (fun n i => ∃ k : Nat, k ≤ s.size ∧ i = .int .i64 k ∧ n = .int .i64 (lets ((byts s).take k) : Nat)) (fun _ i => s.size - (intOf i).toNat)
  case atStart => exact ⟨0, Nat.zero_le _, rfl, rfl⟩
  case round =>
    obtain ⟨k, hk, rfl, rfl⟩ := hrel
    have hl := lets_le ((byts s).take k)
    have hl2 : ((byts s).take k).length ≤ k := List.length_take_le _ _
    by_cases hlt : k < s.size
    · have HS := Lib.hid (lets_take s k hlt)
      have hkb : alnum s[k] = (kindB s[k] == 1 || kindB s[k] == 3) := rfl
      have HK := Lib.hid hkb
      clear hkb
      go_wp2_with (go_at_call 78; refine (kindB_any _ _).mono ?_; rintro e w' ⟨rfl, rfl⟩)
      all_goals
        go_round
        case rel =>
          refine ⟨k + 1, by omega, by go_num, ?_⟩
          rw [HS.out, HK.out]
          go_light
          clear HS HK
          by_cases h1 : kindB s[k] = 1 <;> by_cases h3 : kindB s[k] = 3 <;> simp_all
        case measure => simp [intOf];omega
    · go_wp2
      go_ret
      exact ⟨ret_int (by rw [List.take_of_length_le (by rw [byts_len];omega)]), rfl⟩
theorem toList_nil (s : ByteArray) : s.toList = [] ↔ s.size = 0 := by
  rw [ByteArray.toList_eq]
  show byts s = [] ↔ s.size = 0
  rw [← List.length_eq_zero_iff, byts_len]
def isNm (s : ByteArray) : Bool := decide (0 < s.size) && (decide (s.size ≤ 16) && decide (lets (byts s) = s.size))
set_option maxHeartbeats 1000000 in
theorem isName_any (s : ByteArray) (w : World) (hs : s.size ≤ 140737488355328) :
    Calls Tryd.prog 42 #[.string s] w fun e w' => e = .returned (.bool (isNm s)) ∧ w = w' := by
  go_enter Tryd.func42, Tryd.ntmps42
  go_wp2_with (go_at_call 64; refine (letters_any _ _ hs).mono ?_; rintro e w' ⟨rfl, rfl⟩)
  · go_ret
    refine ⟨ret_bool ?_, rfl⟩
    have h0 := (toList_nil s).1 ‹_›
    simp [isNm, h0]
  · go_ret
    refine ⟨ret_bool ?_, rfl⟩
    have h0 : ¬ s.size = 0 := fun h => absurd ((toList_nil s).2 h) ‹_›
    have h1 : (s.size : Int) ≤ 16 := ‹_›
    have h2 : s.toList.isEmpty = false := by
      cases hh : s.toList with
      | nil => exact absurd ((toList_nil s).1 hh) h0
      | cons _ _ => rfl
    rw [h2, isNm, decide_eq_true (show 0 < s.size by omega), decide_eq_true (show s.size ≤ 16 by omega)]
    simp only [Bool.true_and, Bool.not_false]
    rw [Bool.eq_iff_iff]
    simp only [beq_iff_eq, decide_eq_true_eq]
    omega
  · go_ret
    refine ⟨ret_bool ?_, rfl⟩
    have h1 : 16 < (s.size : Int) := ‹_›
    rw [isNm, decide_eq_false (show ¬ s.size ≤ 16 by omega)]
    simp
end Go.Proofs.YthnlnffmmioapaaDoor
namespace Go.Proofs.YthnlnffmmioapaaDoor
open Go.RowKit
theorem Strs.take {w : World} {a : Option Addr} {n cap : Nat} {xs : List ByteArray} (h : Strs w (.slice a n cap) xs) (k cap' : Nat) (hk : k ≤ xs.length) (hcap : k ≤ cap') : Strs w (.slice a k cap') (xs.take k) := by
  obtain ⟨⟨hl, ⟨a', c', hv, hc⟩, _⟩, h2⟩ := h
  simp only [Value.slice.injEq] at hv
  obtain ⟨rfl, rfl, rfl⟩ := hv
  have hlen : (xs.take k).length = k := by rw [List.length_take];omega
  refine ⟨⟨by omega, ⟨a, cap', by rw [hlen], ?_⟩, fun a1 m c hv => ?_⟩, fun s hs => h2 s (List.mem_of_mem_take hs)⟩
  case refine_2 =>
    simp only [Value.slice.injEq] at hv
    omega
  rw [hlen]
  rcases hc with h0 | ⟨b, off, ha, hc⟩
  · left;omega
  · right
    refine ⟨b, off, ha, fun j hj => ?_⟩
    rw [hc j (by omega)]
    have : (xs.take k).getD j ByteArray.empty = xs.getD j ByteArray.empty := by
      simp only [List.getD_eq_getElem?_getD, List.getElem?_take, if_pos (show j < k by omega)]
    rw [this]
end Go.Proofs.YthnlnffmmioapaaDoor
namespace Go.Proofs.YthnlnffmmioapaaDoor
open Go.RowKit
section
variable {P : Program} {n : Nat} {w0 : World} {K : Fm → List Res → Prop} {F : Fm} {L : List Res} {m : Md} {Lw : List Res} {ops : Array Oper} {rest : List Oper}
  {d : Option Nat} {ty : TypeId} {pos : String} {aft : Array Edge}
theorem OKx_stBg {t : TypeId} {z : Value} [T : TOne P t z] {x y : Operand} {g k : Nat} {v : Value} [hE : Keeps w0 L Lw] (i : Nat) {e : TypeId} {cs cs' : List Value} {L' : List Res} (hx : rv n F x = .pointer (some ⟨g, k, none⟩)) (hy : rv n F y = v) (h1 : v.oneCell' = true) (hv : v.cells = #[v]) (hi : L[i]? = some (.box e g cs)) (hk : k < cs.length)
    (hs : cs.set k v = cs') (hL : L.set i (.box e g cs') = L') (kk : OKx P n w0 (.seq Lw) ops K rest (updo F d undef) L') : OKx P n w0 (.seq Lw) ops K (⟨d, .store t x y, ty, pos, aft, none⟩ :: rest) F L := by
  subst hs; subst hL
  refine OKx_act0 hE.ent fun w hp => ⟨_, _, ?_, hp.setBox hi k v, kk⟩
  obtain ⟨hc, hf, _, _⟩ := hp.boxAt i hi
  exact run_store1 T hx hy h1 hv ((hc k).trans (List.getElem?_eq_getElem hk)) (hf k) _ _ _ _
end
end Go.Proofs.YthnlnffmmioapaaDoor
namespace Go.Proofs.YthnlnffmmioapaaDoor
open Go.RowKit
set_option maxRecDepth 100000 in
set_option maxHeartbeats 4000000 in
theorem kind_sat (c : UInt8) (w : World) : SatV Tryd.prog 78 [.int .u8 (c.toNat : Int)] w (.int .i64 (kind (c.toNat : Int))) :=
  Sat.lib ⟨_, _, Tryd.func78, by kernel_rfl, rfl⟩ fun w1 hb => by
    refine (kindB_any c w1).mono ?_
    rintro e w' ⟨rfl, rfl⟩
    exact ⟨_, [], rfl, Hp.refl _, rfl, rfl⟩
set_option maxRecDepth 100000 in
set_option maxHeartbeats 4000000 in
theorem plain_sat (c : UInt8) (w : World) : SatV Tryd.prog 93 [.int .u8 (c.toNat : Int)] w (.bool (plainB c)) := by
  have hk := fun w1 => kind_sat c w1
  unfold plainB
  generalize kind (c.toNat : Int) = kk at hk ⊢
  by_cases h0 : kk = 0
  · subst h0
    refine SatL.of 12 [2] Tryd.func93 (by kernel_rfl) (by kernel_rfl) rfl rfl rfl rfl ?_
    repeat' (first|(apply OK_seq)|(apply thenQ_n)|(apply OK_region)|(apply OKx_gc 78;exact rfl; refine OKx_callV (f := 78) rfl rfl rfl (fun w1 hp => hk w1) ?_)|(apply OKx_nilK)|(apply OK_block)|(apply blockQ_n)|(apply blockQ_s)|(apply thenQ_e)|(apply blockQ_e;exact rfl)|(apply thenQ_r)|(apply blockQ_r)|(apply OK_condT;exact rfl)|(apply OK_condF;exact rfl)|(apply OK_skip)|(apply OK_exit)|(apply OK_ret)|(apply OKx_move;(conv=>lhs;whnf)<;>exact rfl)|(apply OKx_assign;(conv=>lhs;whnf)<;>exact rfl)|(apply OKx_neq;exact rfl;exact rfl;all_goals (intro _; try (exfalso;omega)))|(apply OKx_pickT;exact rfl;(conv=>lhs;whnf)<;>exact rfl)|(apply OKx_pickF;exact rfl;(conv=>lhs;whnf)<;>exact rfl)|(apply OKx_guardT;exact rfl;exact rfl)|(apply OKx_guardF;exact rfl;exact rfl)|(apply OKx_guardU;exact rfl;exact rfl))
    refine bodyQ_r1 (by ((conv=>lhs;whnf)<;>exact rfl)) ?_
    exact ⟨_, Ent.nil, rfl, rfl⟩
  by_cases h6 : kk = 6
  · subst h6
    refine SatL.of 12 [2] Tryd.func93 (by kernel_rfl) (by kernel_rfl) rfl rfl rfl rfl ?_
    repeat' (first|(apply OK_seq)|(apply thenQ_n)|(apply OK_region)|(apply OKx_gc 78;exact rfl; refine OKx_callV (f := 78) rfl rfl rfl (fun w1 hp => hk w1) ?_)|(apply OKx_nilK)|(apply OK_block)|(apply blockQ_n)|(apply blockQ_s)|(apply thenQ_e)|(apply blockQ_e;exact rfl)|(apply thenQ_r)|(apply blockQ_r)|(apply OK_condT;exact rfl)|(apply OK_condF;exact rfl)|(apply OK_skip)|(apply OK_exit)|(apply OK_ret)|(apply OKx_move;(conv=>lhs;whnf)<;>exact rfl)|(apply OKx_assign;(conv=>lhs;whnf)<;>exact rfl)|(apply OKx_neq;exact rfl;exact rfl;all_goals (intro _; try (exfalso;omega)))|(apply OKx_pickT;exact rfl;(conv=>lhs;whnf)<;>exact rfl)|(apply OKx_pickF;exact rfl;(conv=>lhs;whnf)<;>exact rfl)|(apply OKx_guardT;exact rfl;exact rfl)|(apply OKx_guardF;exact rfl;exact rfl)|(apply OKx_guardU;exact rfl;exact rfl))
    refine bodyQ_r1 (by ((conv=>lhs;whnf)<;>exact rfl)) ?_
    exact ⟨_, Ent.nil, rfl, rfl⟩
  · refine SatL.of 12 [2] Tryd.func93 (by kernel_rfl) (by kernel_rfl) rfl rfl rfl rfl ?_
    repeat' (first|(apply OK_seq)|(apply thenQ_n)|(apply OK_region)|(apply OKx_gc 78;exact rfl; refine OKx_callV (f := 78) rfl rfl rfl (fun w1 hp => hk w1) ?_)|(apply OKx_nilK)|(apply OK_block)|(apply blockQ_n)|(apply blockQ_s)|(apply thenQ_e)|(apply blockQ_e;exact rfl)|(apply thenQ_r)|(apply blockQ_r)|(apply OK_condT;exact rfl)|(apply OK_condF;exact rfl)|(apply OK_skip)|(apply OK_exit)|(apply OK_ret)|(apply OKx_move;(conv=>lhs;whnf)<;>exact rfl)|(apply OKx_assign;(conv=>lhs;whnf)<;>exact rfl)|(apply OKx_neq;exact rfl;exact rfl;all_goals (intro _; try (exfalso;omega)))|(apply OKx_pickT;exact rfl;(conv=>lhs;whnf)<;>exact rfl)|(apply OKx_pickF;exact rfl;(conv=>lhs;whnf)<;>exact rfl)|(apply OKx_guardT;exact rfl;exact rfl)|(apply OKx_guardF;exact rfl;exact rfl)|(apply OKx_guardU;exact rfl;exact rfl))
    refine bodyQ_r1 (by ((conv=>lhs;whnf)<;>exact rfl)) ?_
    exact ⟨_, Ent.nil, by rw [decide_eq_true (⟨h0, h6⟩ : kk ≠ 0 ∧ kk ≠ 6)] <;> rfl, rfl⟩
def chkS (s : List UInt8) : Int := if 64 < s.length then 4 else if 32 ∈ s then 11 else 0
set_option maxRecDepth 100000 in
set_option maxHeartbeats 4000000 in
theorem chkS_sat (s : List UInt8) (w : World) (hs : s.length ≤ 140737488355328) : SatV Tryd.prog 158 [.string (bOf s)] w (.int .i64 (chkS s)) := by
  have hz : (bOf s).size = s.length := bOf_size s
  by_cases h : 64 < s.length
  · have e : chkS s = 4 := if_pos h
    rw [e]
    refine SatL.of 10 [2] Tryd.func158 (by kernel_rfl) (by kernel_rfl) rfl rfl rfl rfl ?_
    repeat' (first|(apply OK_seq)|(apply thenQ_n)|(apply OK_region)|(apply OKx_nilK)|(apply OK_block)|(apply blockQ_n)|(apply blockQ_s)|(apply thenQ_e)|(apply blockQ_e;exact rfl)|(apply thenQ_r)|(apply blockQ_r)|(apply OK_condT;exact rfl)|(apply OK_condF;exact rfl)|(apply OK_skip)|(apply OK_exit)|(apply OK_ret)|(apply OKx_move;(conv=>lhs;whnf)<;>exact rfl)|(apply OKx_assign;(conv=>lhs;whnf)<;>exact rfl)|(apply OKx_lenS;exact rfl)|(apply OKx_gtr;exact rfl;exact rfl;all_goals (intro _; try (exfalso;omega))))
    refine bodyQ_r1 (by ((conv=>lhs;whnf)<;>exact rfl)) ?_
    exact ⟨_, Ent.nil, rfl, rfl⟩
  by_cases hm : 32 ∈ s
  · have e : chkS s = 11 := by unfold chkS; rw [if_neg h, if_pos hm]
    rw [e]
    refine SatL.of 10 [2] Tryd.func158 (by kernel_rfl) (by kernel_rfl) rfl rfl rfl rfl ?_
    repeat' (first|(apply OK_seq)|(apply thenQ_n)|(apply OK_region)|(apply OKx_gc 58;exact rfl; refine OKx_callV (f := 58) (v := .bool true) rfl rfl rfl (fun w1 hp => by have := contains_one_sat s 32 w1; rwa [decide_eq_true hm] at this) ?_)|(apply OKx_nilK)|(apply OK_block)|(apply blockQ_n)|(apply blockQ_s)|(apply thenQ_e)|(apply blockQ_e;exact rfl)|(apply thenQ_r)|(apply blockQ_r)|(apply OK_condT;exact rfl)|(apply OK_condF;exact rfl)|(apply OK_skip)|(apply OK_exit)|(apply OK_ret)|(apply OKx_move;(conv=>lhs;whnf)<;>exact rfl)|(apply OKx_assign;(conv=>lhs;whnf)<;>exact rfl)|(apply OKx_lenS;exact rfl)|(apply OKx_gtr;exact rfl;exact rfl;all_goals (intro _; try (exfalso;omega))))
    refine bodyQ_r1 (by ((conv=>lhs;whnf)<;>exact rfl)) ?_
    exact ⟨_, Ent.nil, rfl, rfl⟩
  · have e : chkS s = 0 := by unfold chkS; rw [if_neg h, if_neg hm]
    rw [e]
    refine SatL.of 10 [2] Tryd.func158 (by kernel_rfl) (by kernel_rfl) rfl rfl rfl rfl ?_
    repeat' (first|(apply OK_seq)|(apply thenQ_n)|(apply OK_region)|(apply OKx_gc 58;exact rfl; refine OKx_callV (f := 58) (v := .bool false) rfl rfl rfl (fun w1 hp => by have := contains_one_sat s 32 w1; rwa [decide_eq_false hm] at this) ?_)|(apply OKx_nilK)|(apply OK_block)|(apply blockQ_n)|(apply blockQ_s)|(apply thenQ_e)|(apply blockQ_e;exact rfl)|(apply thenQ_r)|(apply blockQ_r)|(apply OK_condT;exact rfl)|(apply OK_condF;exact rfl)|(apply OK_skip)|(apply OK_exit)|(apply OK_ret)|(apply OKx_move;(conv=>lhs;whnf)<;>exact rfl)|(apply OKx_assign;(conv=>lhs;whnf)<;>exact rfl)|(apply OKx_lenS;exact rfl)|(apply OKx_gtr;exact rfl;exact rfl;all_goals (intro _; try (exfalso;omega))))
    refine bodyQ_r1 (by ((conv=>lhs;whnf)<;>exact rfl)) ?_
    exact ⟨_, Ent.nil, rfl, rfl⟩
def xC (a : Bool) (s : UInt8 → Bool) (l h : Int) : List Value := .bool a :: ((List.range 256).map (fun c => .bool (s (UInt8.ofNat c))) ++ [.int .i64 l, .int .i64 h])
theorem xC_len (a : Bool) (s : UInt8 → Bool) (l h : Int) : (xC a s l h).length = 259 := by
  unfold xC
  rw [List.length_cons, List.length_append, List.length_map, List.length_range]
  rfl
theorem xC_one (a : Bool) (s : UInt8 → Bool) (l h : Int) : ∀ u ∈ xC a s l h, u.oneCell' = true := by
  intro u hu
  unfold xC at hu
  rcases List.mem_cons.1 hu with rfl | hu
  · rfl
  rcases List.mem_append.1 hu with hu | hu
  · obtain ⟨c, _, rfl⟩ := List.mem_map.1 hu
    rfl
  · rcases List.mem_cons.1 hu with rfl | hu
    · rfl
    · rw [List.mem_singleton] at hu
      subst hu; rfl
theorem xC_zero (l h : Int) : xC false (fun _ => false) l h = .bool false :: (List.replicate 256 (.bool false) ++ [.int .i64 l, .int .i64 h]) := by
  unfold xC
  rw [List.map_const', List.length_range]
theorem xC_any (a : Bool) (s : UInt8 → Bool) (l h : Int) : (xC a s l h).set 0 (.bool true) = xC true s l h := rfl
theorem xC_set (a : Bool) (s s' : UInt8 → Bool) (l h : Int) (c : Nat) (hc : c < 256) (hs : ∀ b, s' b = (s b || decide (b.toNat = c))) : (xC a s l h).set (1 + c) (.bool true) = xC a s' l h := by
  unfold xC
  rw [Nat.add_comm 1 c, List.set_cons_succ, List.set_append_left _ _ (by simpa using hc)]
  congr 2
  apply List.ext_getElem
  · simp
  · intro i h1 h2
    have hi : i < 256 := by simpa using h2
    simp only [List.getElem_set, List.getElem_map, List.getElem_range, hs, UInt8.toNat_ofNat', Nat.mod_eq_of_lt hi]
    by_cases he : c = i
    · subst he; simp
    · rw [if_neg he, decide_eq_false (fun h => he h.symm), Bool.or_false]
theorem xC_to (a : Bool) (s : UInt8 → Bool) (l h h' : Int) : (xC a s l h).set 258 (.int .i64 h') = xC a s l h' := by
  unfold xC
  rw [show (258 : Nat) = 257 + 1 from rfl, List.set_cons_succ, List.set_append_right _ _ (by simp), List.length_map, List.length_range]
  rfl
theorem xC_build (l h : Int) : Instr.fill ([(0, 1), (1, 256), (257, 1), (258, 1)].toArray[·]?) zEl.toArray [(2, .int .i64 l), (3, .int .i64 h)] = some (xC false (fun _ => false) l h).toArray := by
  rw [xC_zero]
  kernel_rfl
theorem xC_at258 (a : Bool) (s : UInt8 → Bool) (l h : Int) : (xC a s l h)[258]? = some (.int .i64 h) := by
  unfold xC
  rw [show (258 : Nat) = 257 + 1 from rfl, List.getElem?_cons_succ, List.getElem?_append_right (by simp), List.length_map, List.length_range]
  rfl
theorem xC_at0 (a : Bool) (s : UInt8 → Bool) (l h : Int) : (xC a s l h)[0]? = some (.bool a) := rfl
theorem xC_atc (a : Bool) (s : UInt8 → Bool) (l h : Int) (c : Nat) (hc : c < 256) : (xC a s l h)[1 + c]? = some (.bool (s (UInt8.ofNat c))) := by
  unfold xC
  rw [Nat.add_comm 1 c, List.getElem?_cons_succ, List.getElem?_append_left (by simpa using hc)]
  simp [hc]
def elsC : Nat → List (List UInt8) → List Value
  | _, [] => []
  | lo, x :: r => xC (elAny x) (elHas x) lo ((lo + x.length : Nat) : Int) ++ elsC (lo + x.length) r
theorem elsC_nil (lo : Nat) : elsC lo [] = [] := rfl
theorem elsC_cons (lo : Nat) (x : List UInt8) (r : List (List UInt8)) : elsC lo (x :: r) = xC (elAny x) (elHas x) lo ((lo + x.length : Nat) : Int) ++ elsC (lo + x.length) r := rfl
theorem elsC_snoc (x : List UInt8) : ∀ (d : List (List UInt8)) (lo : Nat), elsC lo (d ++ [x]) = elsC lo d ++ xC (elAny x) (elHas x) ((lo + d.flatten.length : Nat) : Int) ((lo + d.flatten.length + x.length : Nat) : Int)
  | [], lo => by
    simp only [List.nil_append, elsC, List.append_nil]
    rfl
  | y :: d, lo => by
    rw [List.cons_append, elsC, elsC, elsC_snoc x d, List.append_assoc, List.flatten_cons, List.length_append, Nat.add_assoc lo]
theorem elsC_len : ∀ (d : List (List UInt8)) (lo : Nat), (elsC lo d).length = d.length * 259
  | [], _ => by simp [elsC]
  | x :: d, lo => by rw [elsC, List.length_append, xC_len, elsC_len d, List.length_cons, Nat.succ_mul, Nat.add_comm]
def inv (p : List UInt8) (k : Nat) (done : List (List UInt8)) : Prop := k ≤ p.length ∧ prts p = done ++ prts (p.drop k) ∧ errP p = errP (p.drop k) ∧ done.flatten.length = k ∧ done.length ≤ k
theorem inv_0 (p : List UInt8) : inv p 0 [] := ⟨Nat.zero_le _, rfl, rfl, rfl, Nat.le_refl _⟩
theorem inv_bad {p : List UInt8} {k : Nat} {done : List (List UInt8)} (h : inv p k done) (hk : k < p.length) (he : elErr (p.drop k) ≠ 0) : errP p = elErr (p.drop k) := by
  have hne : p.drop k ≠ [] := fun e => by have := congrArg List.length e; rw [List.length_drop, List.length_nil] at this;omega
  rw [h.2.2.1, errP_cons hne, if_pos he]
theorem inv_next {p : List UInt8} {k : Nat} {done : List (List UInt8)} (h : inv p k done) (hk : k < p.length) (he : elErr (p.drop k) = 0) :
    inv p (k + elLen (p.drop k)) (done ++ [(p.drop k).take (elLen (p.drop k))]) ∧ elsC 0 done ++ xC (elAny (p.drop k)) (elHas (p.drop k)) (k : Int) ((k + elLen (p.drop k) : Nat) : Int) = elsC 0 (done ++ [(p.drop k).take (elLen (p.drop k))]) ∧ 1 ≤ elLen (p.drop k) ∧ k + elLen (p.drop k) ≤ p.length := by
  obtain ⟨h1, h2, h3, h4, h5⟩ := h
  have hne : p.drop k ≠ [] := fun e => by have := congrArg List.length e; rw [List.length_drop, List.length_nil] at this;omega
  obtain ⟨hok, hle, hlen⟩ := first_ok hne he
  have hpos := elLen_pos hne
  have hdl : (p.drop k).length = p.length - k := List.length_drop
  have happ := el_app ((p.drop k).drop (elLen (p.drop k))) hok
  rw [List.take_append_drop] at happ
  refine ⟨⟨by omega, ?_, ?_, ?_, ?_⟩, ?_, hpos, by omega⟩
  · rw [h2, prts_cons hne, List.append_assoc, List.drop_drop]
    rfl
  · rw [h3, errP_cons hne, if_neg (by rw [he]; exact fun h => h rfl), List.drop_drop]
  · rw [List.flatten_append, List.length_append, h4, List.flatten_cons, List.flatten_nil, List.append_nil, hlen]
  · rw [List.length_append, List.length_singleton];omega
  · rw [elsC_snoc, h4, hlen, Nat.zero_add, ← happ.2.2.1, ← happ.2.2.2]
section
variable {P : Program} {n : Nat} {w0 : World} {K : Fm → List Res → Prop} {F : Fm} {L : List Res} {Lw : List Res} {ops : Array Oper} {rest : List Oper} {d : Option Nat} {ty : TypeId} {pos : String} {aft : Array Edge}
theorem OKx_appEl {s x : Operand} {t : TypeId} {e e' sz bytes : Nat} {z : Value} [T : TSlice P t e sz bytes z] [hE : Keeps w0 L Lw] (i j : Nat) {v : Value} {N g c : Nat} {xs ys : List Value}
    (hs : rv n F s = v) (hx : rv n F x = .slice (some ⟨g, 0, none⟩) 1 c) (hi : L[i]? = some (.row e sz v N xs)) (hj : L[j]? = some (.row e' sz (.slice (some ⟨g, 0, none⟩) 1 c) 1 ys)) (hl : ys.length = sz) (h1 : ∀ u ∈ ys, u.oneCell' = true)
    (hb : (N + 1) * bytes ≤ 140737488355328) (hN : N + 1 ≤ 9223372036854775807)
    (kk : ∀ g' cap, OKx P n w0 (.seq Lw) ops K rest (updo F d (.slice (some ⟨g', 0, none⟩) (N + 1) cap)) (L.set i (.row e sz (.slice (some ⟨g', 0, none⟩) (N + 1) cap) (N + 1) (xs ++ ys)))) :
    OKx P n w0 (.seq Lw) ops K (⟨d, .call { callee := .builtin .append, args := #[s, x], argTypes := #[t, t] }, ty, pos, aft, none⟩ :: rest) F L :=
  OKx_append (M := 1) (ys := ys) i hs hx hi (by rw [Nat.one_mul]; exact hl) (fun w1 hp k u hk => by
    have hlt := (List.getElem?_eq_some_iff.1 hk).1
    rw [Nat.zero_add, (hp.rowAt j hj).1 k (by rw [Nat.one_mul];omega)]
    exact hk) h1 hb hN (by decide) kk
end
attribute [irreducible] xC elsC
def patE (p : List UInt8) : Int := if 64 < p.length then 4 else errP p
end Go.Proofs.YthnlnffmmioapaaDoor
