/-
  Part 11 of the proof: Bld, Pe27, Pk27, Pp27, Rd27, Kd27, Any. No statement of the seat is proved here.
-/
import Derived.Test.YthnlnffmmioapaaGreatDoorMHCl2710
import Derived.Lib.Join
import Derived.Shelf.Strings.BuilderF
import Derived.Shelf.Strings.OnBuilder
namespace Go.Proofs.YthnlnffmmioapaaGreatDoor
open Go.RowKit
def ren166 : Go.Shelf.Ren := ⟨fun | 166 => 88 | 240 => 107 | 276 => 123 | n => n,
  fun | 0 => 0 | 3 => 3 | 4 => 4 | 5 => 5 | 9 => 9 | 20 => 20 | 37 => 92 | 70 => 104 | 72 => 106 | 75 => 108 | 80 => 113 | 164 => 138 | n => n, fun | n => n⟩
theorem lays166 : Go.Proofs.Lays.n166 Tryz.prog ren166 := {
  mixed := by kernel_rfl
  f166 := Tryz.func88.trans (congrArg some (by kernel_rfl))
  f240 := Tryz.func107.trans (congrArg some (by kernel_rfl))
  f276 := Tryz.func123.trans (congrArg some (by kernel_rfl))
  t0 := Tryz.underlying0
  a0 := Tryz.isAgg0
  z0 := Tryz.sizeOf0
  v0 := Tryz.zeroValue0
  t3 := Tryz.underlying3
  a3 := Tryz.isAgg3
  z3 := Tryz.sizeOf3
  v3 := Tryz.zeroValue3
  t4 := Tryz.underlying4
  a4 := Tryz.isAgg4
  z4 := Tryz.sizeOf4
  v4 := Tryz.zeroValue4
  t9 := Tryz.underlying9
  a9 := Tryz.isAgg9
  z9 := Tryz.sizeOf9
  v9 := Tryz.zeroValue9
  t20 := Tryz.underlying20
  a20 := Tryz.isAgg20
  z20 := Tryz.sizeOf20
  v20 := Tryz.zeroValue20
  t37 := Tryz.underlying92
  a37 := Tryz.isAgg92
  z37 := Tryz.sizeOf92
  v37 := Tryz.zeroValue92
  t70 := Tryz.underlying104
  a70 := Tryz.isAgg104
  z70 := Tryz.sizeOf104
  v70 := Tryz.zeroValue104
  t72 := Tryz.underlying106
  a72 := Tryz.isAgg106
  z72 := Tryz.sizeOf106
  v72 := Tryz.zeroValue106
  t75 := Tryz.underlying108
  a75 := Tryz.isAgg108
  z75 := Tryz.sizeOf108
  v75 := Tryz.zeroValue108
  t164 := Tryz.underlying138
  a164 := Tryz.isAgg138
  z164 := Tryz.sizeOf138
  v164 := Tryz.zeroValue138 }
theorem extra166 : Builder.Extra Tryz.prog ren166 := {
  sizeBuilder := by kernel_rfl
  liesBuilder := by kernel_rfl
  t5 := Tryz.underlying5
  a5 := Tryz.isAgg5
  z5 := Tryz.sizeOf5
  v5 := Tryz.zeroValue5
  infoByte := by kernel_rfl
  cellsByte := by kernel_rfl
  sizeByte := by kernel_rfl
  neB5 := by decide }
def bldL (b : Nat) (p v : Value) (l : List UInt8) : List Res := [.box 106 b [p, v], .row 5 1 v l.length (Lib.byteCells l)]
def bldP (b : Nat) (p : Value) : Prop := p = .pointer none ∨ p = .pointer (some ⟨b, 0, none⟩)
theorem byteCells_len (l : List UInt8) : (Lib.byteCells l).length = l.length := by simp [Lib.byteCells]
theorem bldL_is {w0 w : World} {b : Nat} {p v : Value} {l : List UInt8} {K : List Res} (hp : bldP b p) (h : Hp w0.heap.size w0 w (bldL b p v l ++ K)) : Lib.IsBuilder 106 5 w0.heap.size b (Lib.byteCells l) w := by
  have hb : w0.heap.size ≤ b ∧ w.heap[b]? = some (.cells [p, v].toArray 106 (0, 0)) := h.ok _ List.mem_cons_self
  have hr : w.ownsRow w0.heap.size 5 1 v l.length (Lib.byteCells l) := h.ok _ (List.mem_cons_of_mem _ List.mem_cons_self)
  have hd : (some b : Option Nat) = none ∨ some b ≠ v.ownBlock := (List.pairwise_cons.1 h.dj).1 _ List.mem_cons_self
  have hne : v.ownBlock ≠ some b := by
    rcases hd with hd | hd
    · cases hd
    · exact fun e => hd e.symm
  rcases hp with rfl | rfl
  · exact .inl ⟨hb.1, v, hb.2, by rw [byteCells_len]; exact hr, hne⟩
  · exact .inr ⟨hb.1, v, hb.2, by rw [byteCells_len]; exact hr, hne⟩
set_option maxRecDepth 100000 in
set_option maxHeartbeats 4000000 in
theorem copyCheck_sat (b : Nat) (p v : Value) (w0 : World) (K : List Res) (hp : bldP b p) :
    SatL Tryz.prog 107 [.pointer (some ⟨b, 0, none⟩)] w0 (.box 106 b [p, v] :: K) (fun u L => u = .tuple #[] ∧ L = .box 106 b [.pointer (some ⟨b, 0, none⟩), v] :: K) :=
  ⟨⟨_, _, Tryz.func107, by kernel_rfl, rfl⟩, fun w h => by
    have hb : w0.heap.size ≤ b ∧ w.heap[b]? = some (.cells [p, v].toArray 106 (0, 0)) := h.ok _ List.mem_cons_self
    have hc0 : w.cell? ⟨b, 0, none⟩ = some p := by simp [World.cell?, hb.2]
    rcases hp with rfl | rfl
    · have hc : Calls Tryz.prog 107 #[.pointer (some ⟨b, 0, none⟩)] w fun e w' => e = .returned (.tuple #[]) ∧ w' = w.setCell ⟨b, 0, none⟩ (.pointer (some ⟨b, 0, none⟩)) :=
        Any.Builder_copyCheck_fresh { lays166 with } { extra166 with } b w hc0 (by simp [World.shape?, hb.2]; rfl) (by simp [World.frozen?, hb.2])
      refine hc.mono ?_
      rintro e w' ⟨rfl, rfl⟩
      exact ⟨_, _, rfl, h.setBox (i := 0) rfl 0 _, rfl, rfl⟩
    · have hc : Calls Tryz.prog 107 #[.pointer (some ⟨b, 0, none⟩)] w fun e w' => e = .returned (.tuple #[]) ∧ w' = w :=
        Any.Builder_copyCheck_used { lays166 with } { extra166 with } b w hc0
      refine hc.mono ?_
      rintro e w' ⟨rfl, rfl⟩
      exact ⟨_, _, rfl, h, rfl, rfl⟩⟩
section
variable {n : Nat} {w0 : World} {K : Fm → List Res → Prop} {F : Fm} {L : List Res} {Lw : List Res} {ops : Array Oper} {rest : List Oper} {d : Option Nat} {ty : TypeId} {pos : String} {aft : Array Edge}
theorem blk_new {g k : Nat} {N c : Nat} {v' : Value} (e : v' = .slice (some ⟨g, 0, none⟩) N c) (hk : v'.ownBlock = some k) : k = g := by
  subst e
  simp only [Value.ownBlock, Option.some.injEq] at hk
  exact hk.symm
theorem OKx_appStr {s x : Operand} [hE : Keeps w0 L Lw] (i : Nat) {v : Value} {N : Nat} {xs : List Value} {sb : ByteArray} (hs : rv n F s = v) (hx : rv n F x = .string sb) (hi : L[i]? = some (.row 5 1 v N xs)) (hN : N + sb.size ≤ 140737488355328)
    (kk : ∀ a c, OKx Tryz.prog n w0 (.seq Lw) ops K rest (updo F d (.slice a (N + sb.size) c)) (L.set i (.row 5 1 (.slice a (N + sb.size) c) (N + sb.size) (xs ++ Lib.strCells sb)))) :
    OKx Tryz.prog n w0 (.seq Lw) ops K (⟨d, .call { callee := .builtin .append, args := #[s, x], argTypes := #[92, 9] }, ty, pos, aft, none⟩ :: rest) F L := by
  refine OKx_actW hE.ent fun w a hfr hp => wp_of_list (ops := ops) rfl ?_
  have hown : w.ownsRow w0.heap.size 5 1 v N xs := hp.ok _ (List.mem_of_getElem? hi)
  have hown0 := hown
  obtain ⟨ti, hti, hz0, hz1, hz2⟩ := info_parts extra166.infoByte
  have hti : Tryz.prog.info? 5 = some ti := hti
  obtain ⟨v', w', hr, h2, h3, h4⟩ := Lib.run_append_own_string (P := Tryz.prog) w w0.heap.size 92 9 ty 5 ti Tryz.underlying92 Tryz.underlying9 hti hz0 hz1 hz2 v N xs hown sb (by unfold maxLen;omega) hN hp.base
  have hblk : ∀ k, v'.ownBlock = some k → v.ownBlock = some k ∨ w.heap.size ≤ k := by
    intro k hk
    have hxl : xs.length = N := by simpa using hown0.1
    rcases hown0.2 with ⟨rfl, rfl⟩ | ⟨g, cap, cur, rfl, hbg, hg, hnc, hcm, hcs, htake⟩
    · by_cases hm : sb.size = 0
      · rw [h4.2 ⟨rfl, hm⟩] at hk
        cases hk
      · have hr2 := run_append_nil_string (P := Tryz.prog) w 92 9 ty 5 ti (.int .u8 0) Tryz.underlying92 Tryz.underlying9 hti hz0 sb (by omega) (by omega) (by rw [hz2];omega)
        rw [hr] at hr2
        simp only [Result.ok.injEq] at hr2
        exact .inr (by rw [blk_new hr2.1 hk]; exact Nat.le_refl _)
    · by_cases hroom : N + sb.size ≤ cap
      · have hcs' : cur.size = cap := by simpa using hcs
        have hr2 := Lib.run_append_room_string (P := Tryz.prog) w 92 9 ty 5 ti Tryz.underlying92 Tryz.underlying9 hti hz1 g N cap cur hg sb hroom (by omega)
        rw [hr] at hr2
        simp only [Result.ok.injEq] at hr2
        exact .inl (by rw [blk_new hr2.1 hk]; rfl)
      · have holds : ∀ j u, xs[j]? = some u → w.cell? ((⟨g, 0, none⟩ : Addr).add j) = some u := hown.cells (g := g) rfl
        have hr2 := Lib.run_append_grow_string (P := Tryz.prog) w 92 9 ty 5 ti (.int .u8 0) Tryz.underlying92 Tryz.underlying9 hti hz0 ⟨g, 0, none⟩ N cap xs (by rw [hz1]; simpa using hxl) holds sb (by omega) (by omega) (by rw [hz2]; exact growslice_fits (by omega) (by omega))
        rw [hr] at hr2
        simp only [Result.ok.injEq] at hr2
        exact .inr (by rw [blk_new hr2.1 hk]; exact Nat.le_refl _)
  obtain ⟨a2, c2, rfl⟩ : ∃ a2 c2, v' = .slice a2 (N + sb.size) c2 := by
    rcases h2.2 with ⟨rfl, h0⟩ | ⟨g, cap, cur, rfl, _⟩
    · exact ⟨none, 0, by rw [h0]⟩
    · exact ⟨_, _, rfl⟩
  refine wpList_plain rfl fun K' hK' => ?_
  unfold Oper.wp execOp
  simp only [resolve, invoke, builtin, Sem.run_bind, Sem.run_pure, Result.andThen_ok, List.map_toArray, List.map_cons, List.map_nil, hfr.eval, hs, hx, hr]
  exact hK' _ _ ⟨rfl, (kk a2 c2).use w' _ (hfr.put d _) (hp.turn hi h3 (r' := .row 5 1 (.slice a2 (N + sb.size) c2) (N + sb.size) (xs ++ Lib.strCells sb)) h2 hblk)⟩
end
theorem bytes_app (l : List UInt8) (s : ByteArray) : Lib.byteCells l ++ Lib.strCells s = Lib.byteCells (l ++ s.data.toList) := by
  have e : Lib.strCells s = Lib.byteCells s.data.toList := rfl
  rw [e]
  simp [Lib.byteCells]
set_option maxRecDepth 100000 in
set_option maxHeartbeats 4000000 in
theorem bldW_sat (b : Nat) (p v : Value) (l : List UInt8) (s : ByteArray) (w0 : World) (K : List Res) (hp : bldP b p) (hl : l.length + s.size ≤ 140737488355328) :
    SatL Tryz.prog 88 [.pointer (some ⟨b, 0, none⟩), .string s] w0 (bldL b p v l ++ K) (fun u L => u = .tuple #[.int .i64 s.size, .nilIface] ∧ ∃ v', L = bldL b (.pointer (some ⟨b, 0, none⟩)) v' (l ++ s.data.toList) ++ K) := by
  unfold bldL
  rw [List.cons_append, List.cons_append, List.nil_append]
  refine SatL.of 19 [4, 5] Tryz.func88 (by kernel_rfl) (by kernel_rfl) rfl rfl rfl rfl ?_
  repeat' (first|(apply OK_seq)|(apply thenQ_n)|(apply OK_region)|(apply OKx_gc 107;exact rfl; refine OKx_callL (f := 107) rfl rfl (copyCheck_sat b p v _ _ hp) ?_; rintro _ _ ⟨rfl, rfl⟩)|(apply OKx_gb; refine OKx_appStr 1 rfl rfl rfl (by omega) ?_; intro a2 c2)|(apply OKx_nilK)|(apply OK_ret)|(apply OKx_move;(conv=>lhs;whnf)<;>exact rfl)|(apply OKx_assign;(conv=>lhs;whnf)<;>exact rfl)|(apply OKx_ldB;exact rfl; (apply atP;constructor);exact rfl)|(apply OKx_lenS;exact rfl)|(apply OKx_fldO;exact rfl;exact rfl)|(apply OKx_stB;exact rfl;(conv=>lhs;whnf)<;>exact rfl;exact rfl;exact rfl; (apply atP;constructor);exact rfl;exact rfl;exact rfl)|(apply OKx_nilCheck;exact rfl))
  refine bodyQ_r2 (by ((conv=>lhs;whnf)<;>exact rfl)) (by ((conv=>lhs;whnf)<;>exact rfl)) ?_
  refine ⟨_, Ent.refl _ _, rfl, .slice a2 (l.length + s.size) c2, ?_⟩
  rw [bytes_app]
  have e : (l ++ s.data.toList).length = l.length + s.size := by rw [List.length_append]; rfl
  rw [e]
  rfl
set_option maxRecDepth 100000 in
set_option maxHeartbeats 4000000 in
theorem bldStr_sat (b : Nat) (p v : Value) (l : List UInt8) (w0 : World) (K : List Res) (hp : bldP b p) :
    SatL Tryz.prog 91 [.pointer (some ⟨b, 0, none⟩)] w0 (bldL b p v l ++ K) (fun u L => u = .string (bOf l) ∧ L = []) :=
  ⟨⟨_, _, Tryz.func91, by kernel_rfl, rfl⟩, fun w h => by
    refine (Tryz.Builder_String_any w0.heap.size b l w (bldL_is hp h) h.base).mono ?_
    rintro e w' ⟨rfl, hb⟩
    exact ⟨_, [], rfl, ⟨h.below.trans hb, Nat.le_trans h.base hb.size, fun r hr => absurd hr List.not_mem_nil, List.Pairwise.nil⟩, rfl, rfl⟩⟩
def jnS (xs : List ByteArray) : List UInt8 := Lib.join (xs.map (·.data.toList)) [32]
set_option maxRecDepth 100000 in
set_option maxHeartbeats 4000000 in
theorem join_sat (v : Value) (xs : List ByteArray) (w : World) (h : Strs w v xs) (hl : (jnS xs).length ≤ 140737488355328) : SatV Tryz.prog 180 [v, .string ⟨#[32]⟩] w (.string (bOf (jnS xs))) :=
  Sat.lib ⟨_, _, Tryz.func180, by kernel_rfl, rfl⟩ fun w1 hb => by
    have h := h.below hb
    obtain ⟨⟨hn, ⟨a, cap, rfl, hc⟩, hr⟩, _⟩ := h
    rcases hc with h0 | ⟨b, off, rfl, hc⟩
    · have hx : xs = [] := List.eq_nil_of_length_eq_zero h0
      subst hx
      refine (Tryz.strings_Join_none a cap ⟨#[32]⟩ w1).mono ?_
      rintro e w' ⟨rfl, rfl⟩
      exact ⟨_, [], rfl, Hp.refl _, rfl, rfl⟩
    · by_cases h0 : xs.length = 0
      · have hx : xs = [] := List.eq_nil_of_length_eq_zero h0
        subst hx
        refine (Tryz.strings_Join_none (some ⟨b, off, none⟩) cap ⟨#[32]⟩ w1).mono ?_
        rintro e w' ⟨rfl, rfl⟩
        exact ⟨_, [], rfl, Hp.refl _, rfl, rfl⟩
      have hbk : b < w1.heap.size := by
        have := hc 0 (by omega)
        unfold World.cell? at this
        cases h : w1.heap[b]? with
        | none => simp [h] at this
        | some o => exact (Array.getElem?_eq_some_iff.1 h).1
      refine (Tryz.strings_Join b off cap xs ⟨#[32]⟩ w1 (fun j x hj => ?_) hbk hn (hr _ _ _ rfl) hl).mono ?_
      · have hj2 := (List.getElem?_eq_some_iff.1 hj).1
        rw [hc j (by omega), List.getD_eq_getElem?_getD, hj]
        rfl
      · rintro e w' ⟨rfl, hb2⟩
        exact ⟨_, [], rfl, ⟨hb2, hb2.size, fun r hr => absurd hr List.not_mem_nil, List.Pairwise.nil⟩, rfl, rfl⟩
end Go.Proofs.YthnlnffmmioapaaGreatDoor
namespace Go.Proofs.YthnlnffmmioapaaGreatDoor
open Go.RowKit
instance : Inhabited Cnd := ⟨.mk 0 0 ByteArray.empty []⟩
mutual
def Cnd.cnt : Cnd → Nat
  | .mk _ _ _ ps => 1 + Cnd.cnts ps
def Cnd.cnts : List Cnd → Nat
  | [] => 0
  | x :: xs => x.cnt + Cnd.cnts xs
end
theorem cnts_sum (xs : List Cnd) : Cnd.cnts xs = (xs.map Cnd.cnt).sum := by
  induction xs with
  | nil => rfl
  | cons x xs ih => rw [Cnd.cnts, ih, List.map_cons, List.sum_cons]
theorem cnt_eq (x : Cnd) : x.cnt = 1 + (x.parts.map Cnd.cnt).sum := by cases x; rw [Cnd.cnt, cnts_sum]; rfl
theorem cnt_pos (x : Cnd) : 1 ≤ x.cnt := by rw [cnt_eq];omega
theorem sum_take (l : List Nat) (j : Nat) (h : j < l.length) : (l.take (j + 1)).sum = (l.take j).sum + l[j] := by
  rw [List.take_succ_eq_append_getElem h, List.sum_append, List.sum_cons, List.sum_nil, Nat.add_zero]
theorem sum_take_le (l : List Nat) (j : Nat) : (l.take j).sum ≤ l.sum := by
  conv => rhs; rw [← List.take_append_drop j l, List.sum_append]
  omega
theorem depth_eq (x : Cnd) : x.depth = 1 + Cnd.depth.depths x.parts := by cases x; rfl
theorem depth_pos (x : Cnd) : 1 ≤ x.depth := by rw [depth_eq];omega
theorem depths_le (xs : List Cnd) (d : Nat) : Cnd.depth.depths xs ≤ d ↔ ∀ x ∈ xs, x.depth ≤ d := by
  induction xs with
  | nil => simp [Cnd.depth.depths]
  | cons y ys ih => rw [Cnd.depth.depths, Nat.max_le, ih, List.forall_mem_cons]
theorem depth_in {x y : Cnd} (h : y ∈ x.parts) : y.depth < x.depth := by
  rw [depth_eq x]
  have := (depths_le x.parts (Cnd.depth.depths x.parts)).1 (Nat.le_refl _) y h
  omega
def mesB (x : Cnd) : Bool := decide (x.depth ≤ 16) && decide (x.cnt ≤ 65536)
def numK (k : Int) : Bool := decide (5 ≤ k) && decide (k ≤ 7)
def txtK (k : Int) : Bool := decide (8 ≤ k) && decide (k ≤ 9)
def lstK (k : Int) : Nat := if k = 13 then 1 else if 11 ≤ k then 2 else 0
def mstK (k : Int) : Int := if k = 13 then 1 else if 11 ≤ k then -1 else 0
def nodeB (k n : Int) (s : ByteArray) (m : Nat) : Bool :=
  decide (1 ≤ k ∧ k ≤ 13 ∧ 0 ≤ n ∧ n ≤ 1000 ∧ (numK k = false → n = 0) ∧ (txtK k = false → s.size = 0) ∧ (txtK k = true → patE (byts s) = 0) ∧ lstK k ≤ m ∧ (0 ≤ mstK k → (m : Int) ≤ mstK k))
mutual
def Cnd.own : Cnd → Bool
  | .mk k n s ps => nodeB k n s ps.length && Cnd.owns ps
def Cnd.owns : List Cnd → Bool
  | [] => true
  | x :: xs => x.own && Cnd.owns xs
end
theorem owns_all (xs : List Cnd) : Cnd.owns xs = xs.all Cnd.own := by
  induction xs with
  | nil => rfl
  | cons x xs ih => rw [Cnd.owns, ih, List.all_cons]
theorem own_eq (x : Cnd) : x.own = (nodeB x.kind x.num x.text x.parts.length && x.parts.all Cnd.own) := by cases x; rw [Cnd.own, owns_all]; rfl
def rgtE (x : Cnd) : Int := if mesB x = false then 4 else if x.own = false then 24 else 0
theorem rgtE_zero {x : Cnd} (h : rgtE x = 0) : mesB x = true ∧ x.own = true := by
  unfold rgtE at h
  cases h1 : mesB x with
  | false => rw [if_pos h1] at h; cases h
  | true =>
    cases h2 : x.own with
    | false => rw [if_neg (by rw [h1]; decide), if_pos h2] at h; cases h
    | true => exact ⟨rfl, rfl⟩
def foldC (c : UInt8) : UInt8 := if 65 ≤ c ∧ c ≤ 90 then c + 32 else c
def simL (l : List UInt8) : List UInt8 := (l.filter fun c => !decide (kindB c = 2)).map foldC
def levE (q : Nat → Nat → Bool) : Nat → Nat → Nat
  | 0, k => k
  | i + 1, 0 => i + 1
  | i + 1, k + 1 => min (min (levE q i k + if q i k = true then 0 else 1) (levE q i (k + 1) + 1)) (levE q (i + 1) k + 1)
theorem levE_le (q : Nat → Nat → Bool) : ∀ i k, levE q i k ≤ i + k
  | 0, k => by rw [levE];omega
  | i + 1, 0 => by rw [levE];omega
  | i + 1, k + 1 => by
    rw [levE]
    have := levE_le q i (k + 1)
    omega
theorem levE_congr (q q' : Nat → Nat → Bool) : ∀ i k, (∀ a b, a < i → b < k → q a b = q' a b) → levE q i k = levE q' i k
  | 0, k, _ => by rw [levE, levE]
  | i + 1, 0, _ => by rw [levE, levE]
  | i + 1, k + 1, h => by
    rw [levE, levE, levE_congr q q' i k (fun a b h1 h2 => h a b (by omega) (by omega)), levE_congr q q' i (k + 1) (fun a b h1 h2 => h a b (by omega) h2), levE_congr q q' (i + 1) k (fun a b h1 h2 => h a b h1 (by omega)), h i k (by omega) (by omega)]
def byEq (a b : List UInt8) (i k : Nat) : Bool := decide (a.getD i 0 = b.getD k 0)
def levP (a b : List UInt8) : Nat → Nat → Nat := levE (byEq a b)
def lev (a b : List UInt8) : Nat := levP a b a.length b.length
def nearB (b ws : List ByteArray) (n : Int) : Bool := decide (max (jnS b).length (jnS ws).length ≤ 256) && decide ((lev (jnS b) (jnS ws) : Int) ≤ n)
def mtchB (s : ByteArray) (ws : List ByteArray) : Bool := ws.any fun w => mtcB (byts s) (byts w)
def leafH (k n : Int) (s : ByteArray) (b ws : List ByteArray) (ns : Nat) : Bool :=
  if k = 1 then decide (0 < b.length) && decide (ws.length = 0)
  else if k = 2 then decide (b.length = 0) && decide (0 < ws.length)
  else if k = 3 then decide (0 < b.length) && (decide (0 < ws.length) && !decide (b = ws))
  else if k = 4 then !decide (b = ws) && decide (b.Perm ws)
  else if k = 5 then nearB b ws n
  else if k = 6 then decide ((ws.length : Int) ≤ n)
  else if k = 7 then decide (n ≤ (ns : Int))
  else if k = 8 then mtchB s b
  else if k = 9 then mtchB s ws
  else decide (b.map (fun w => simL (byts w)) = ws.map fun w => simL (byts w))
mutual
def Cnd.hd (b ws : List ByteArray) (ns : Nat) : Cnd → Bool
  | .mk k n s ps => if k = 11 then Cnd.hdA b ws ns ps else if k = 12 then Cnd.hdO b ws ns ps else if k = 13 then !Cnd.hdF b ws ns ps else leafH k n s b ws ns
def Cnd.hdA (b ws : List ByteArray) (ns : Nat) : List Cnd → Bool
  | [] => true
  | x :: xs => x.hd b ws ns && Cnd.hdA b ws ns xs
def Cnd.hdO (b ws : List ByteArray) (ns : Nat) : List Cnd → Bool
  | [] => false
  | x :: xs => x.hd b ws ns || Cnd.hdO b ws ns xs
def Cnd.hdF (b ws : List ByteArray) (ns : Nat) : List Cnd → Bool
  | [] => false
  | x :: _ => x.hd b ws ns
end
theorem hdA_all (b ws : List ByteArray) (ns : Nat) (xs : List Cnd) : Cnd.hdA b ws ns xs = xs.all (Cnd.hd b ws ns) := by
  induction xs with
  | nil => rfl
  | cons x xs ih => rw [Cnd.hdA, ih, List.all_cons]
theorem hdO_any (b ws : List ByteArray) (ns : Nat) (xs : List Cnd) : Cnd.hdO b ws ns xs = xs.any (Cnd.hd b ws ns) := by
  induction xs with
  | nil => rfl
  | cons x xs ih => rw [Cnd.hdO, ih, List.any_cons]
theorem hd_eq (b ws : List ByteArray) (ns : Nat) (x : Cnd) : x.hd b ws ns = if x.kind = 11 then x.parts.all (Cnd.hd b ws ns) else if x.kind = 12 then x.parts.any (Cnd.hd b ws ns) else if x.kind = 13 then !((x.parts.map (Cnd.hd b ws ns)).headD false) else leafH x.kind x.num x.text b ws ns := by
  cases x with
  | mk k n s ps =>
    rw [Cnd.hd, hdA_all, hdO_any]
    cases ps <;> rfl
def wdsB (l : List ByteArray) : Bool := decide (l.length ≤ 1024) && l.all fun w => decide (0 < w.size) && (decide (w.size ≤ 64) && !(byts w).contains 32)
def srcB (l : List Int) : Bool := l.all (fun s => decide (0 ≤ s) && decide (s < 32)) && (List.range l.length).all fun i => decide (i = 0) || decide (l.getD (i - 1) 0 < l.getD i 0)
structure Rdn where
  words : List ByteArray
  src : List Int
instance : Inhabited Rdn := ⟨⟨[], []⟩⟩
def rdgB (r : Rdn) : Bool := srcB r.src && wdsB r.words
structure Rul where
  name : ByteArray
  cnd : Cnd
instance : Inhabited Rul := ⟨⟨ByteArray.empty, default⟩⟩
def clsN (rs : List Rul) (b : List ByteArray) (r : Rdn) : ByteArray := match rs.find? fun x => x.cnd.hd b r.words r.src.length with
  | some x => x.name
  | none => ⟨#[111, 116, 104, 101, 114]⟩
def hldE (x : Cnd) (b : List ByteArray) (r : Rdn) : Int := if rgtE x = 0 ∧ wdsB b = true ∧ rdgB r = true then 0 else 1
def hldB (x : Cnd) (b : List ByteArray) (r : Rdn) : Bool := decide (hldE x b r = 0) && x.hd b r.words r.src.length
def grtW (l : List ByteArray) : Bool := (decide (8 < l.length) && decide (l.length ≤ 1024) || decide (1026 < l.length)) || l.any fun x => (decide (12 < x.size) && decide (x.size ≤ 64)) || decide (66 < x.size)
def grtR (l : List Rdn) : Bool := (decide (6 < l.length) && decide (l.length ≤ 4096) || decide (4098 < l.length)) || l.any fun r => grtW r.words || decide (36 < r.src.length)
mutual
def Cnd.lng : Cnd → Bool
  | .mk _ _ s ps => Cnd.lngs ps || decide (70 < s.size)
def Cnd.lngs : List Cnd → Bool
  | [] => false
  | x :: xs => x.lng || Cnd.lngs xs
end
theorem lngs_any (xs : List Cnd) : Cnd.lngs xs = xs.any Cnd.lng := by
  induction xs with
  | nil => rfl
  | cons x xs ih => rw [Cnd.lngs, ih, List.any_cons]
theorem lng_eq (x : Cnd) : x.lng = (x.parts.any Cnd.lng || decide (70 < x.text.size)) := by cases x; rw [Cnd.lng, lngs_any]; rfl
def grtX (x : Cnd) : Bool := !(decide (x.depth ≤ 20) && decide (x.cnt ≤ 40)) || x.lng
def grtL (rs : List Rul) : Bool := (rs.any fun r => decide (20 < r.name.size) || grtX r.cnd) || (decide (5 < rs.length) && decide (rs.length ≤ 64) || decide (66 < rs.length))
def wrdK (k : Int) : List UInt8 := ([[], [111, 109, 105, 115, 115, 105, 111, 110], [97, 100, 100, 105, 116, 105, 111, 110], [115, 117, 98, 115, 116, 105, 116, 117, 116, 105, 111, 110], [111, 114, 100, 101, 114], [100, 105, 115, 116, 97, 110, 99, 101], [119, 111, 114, 100, 115], [115, 117, 112, 112, 111, 114, 116], [98, 97, 115, 101], [109, 97, 116, 99, 104], [102, 111, 108, 100], [97, 110, 100], [111, 114], [110, 111, 116]] : List (List UInt8)).getD k.toNat []
def parW (b : Bool) (l : List UInt8) : List UInt8 := if b then 40 :: (l ++ [41]) else l
def parK (k pk : Int) : Bool := decide (pk = 12) || (decide (pk = 11) && !decide (k = 12))
mutual
def Cnd.prt : Cnd → List UInt8
  | .mk k n s ps => if 11 ≤ k then (if k = 13 then wrdK k ++ 32 :: Cnd.prtF k ps else Cnd.prtJ k ps) else wrdK k ++ ((if numK k then 32 :: Lib.itoa n else []) ++ if txtK k then 32 :: 34 :: (byts s ++ [34]) else [])
def Cnd.prtF (k : Int) : List Cnd → List UInt8
  | [] => []
  | x :: _ => parW (parK k x.kind) x.prt
def Cnd.prtJ (k : Int) : List Cnd → List UInt8
  | [] => []
  | x :: xs => parW (parK k x.kind) x.prt ++ Cnd.prtS k xs
def Cnd.prtS (k : Int) : List Cnd → List UInt8
  | [] => []
  | x :: xs => 32 :: (wrdK k ++ 32 :: (parW (parK k x.kind) x.prt ++ Cnd.prtS k xs))
end
def linL (rs : List Rul) : List UInt8 := (rs.map fun r => byts r.name ++ 58 :: 32 :: (r.cnd.prt ++ [10])).flatten
def rulsF : List ByteArray → List Rul → Int
  | _, [] => 0
  | seen, r :: rs => if isNm r.name = false ∨ r.name = ⟨#[98, 97, 115, 101]⟩ ∨ r.name = ⟨#[111, 116, 104, 101, 114]⟩ then 14 else if seen.any (fun y => decide (y = r.name)) = true then 7 else if rgtE r.cnd ≠ 0 then rgtE r.cnd else rulsF (seen ++ [r.name]) rs
def rulE (rs : List Rul) : Int := if 64 < rs.length then 4 else if rulsF [] rs ≠ 0 then rulsF [] rs else if 65536 < (linL rs).length then 4 else 0
end Go.Proofs.YthnlnffmmioapaaGreatDoor
namespace Go.Proofs.YthnlnffmmioapaaGreatDoor
theorem jnS_cons (x y : ByteArray) (r : List ByteArray) : jnS (x :: y :: r) = x.data.toList ++ 32 :: jnS (y :: r) := by
  unfold jnS
  rw [List.map_cons, List.map_cons, Lib.join_cons, Lib.join_cons]
  simp [Lib.joinTail]
theorem jnS_len (B : Nat) : ∀ xs : List ByteArray, (∀ x ∈ xs, x.size ≤ B) → (jnS xs).length ≤ xs.length * (B + 1)
  | [], _ => by simp [jnS, Lib.join_nil]
  | [x], h => by
    rw [show jnS [x] = x.data.toList from Lib.join_one _ _]
    have : x.data.toList.length = x.size := Array.length_toList
    have := h x List.mem_cons_self
    simp only [List.length_cons, List.length_nil]
    omega
  | x :: y :: r, h => by
    have ih := jnS_len B (y :: r) fun z hz => h z (List.mem_cons_of_mem _ hz)
    rw [jnS_cons, List.length_append, List.length_cons]
    have : x.data.toList.length = x.size := Array.length_toList
    have := h x List.mem_cons_self
    rw [List.length_cons (a := x), Nat.succ_mul]
    omega
theorem wdsB_iff (l : List ByteArray) : wdsB l = true ↔ l.length ≤ 1024 ∧ ∀ x ∈ l, 0 < x.size ∧ x.size ≤ 64 ∧ (32 : UInt8) ∉ x.data.toList := by
  unfold wdsB
  simp only [Bool.and_eq_true, decide_eq_true_eq, List.all_eq_true, Bool.not_eq_true', List.contains_eq_mem, decide_eq_false_iff_not, byts]
def cntB (l : List ByteArray) (x : ByteArray) : Nat := l.countP fun y => decide (y = x)
theorem cntB_perm {a b : List ByteArray} (h : a.Perm b) (x : ByteArray) : cntB a x = cntB b x := h.countP_eq _
theorem cntB_pos {l : List ByteArray} {x : ByteArray} : 0 < cntB l x ↔ x ∈ l := by
  unfold cntB
  rw [List.countP_pos_iff]
  simp
theorem perm_of_counts : ∀ (a b : List ByteArray), a.length = b.length → (∀ x ∈ a, cntB a x = cntB b x) → a.Perm b
  | [], b, h, _ => by
    rw [List.length_nil] at h
    rw [List.eq_nil_of_length_eq_zero h.symm]
  | x :: a, b, h, hc => by
    have h1 : 0 < cntB b x := by
      rw [← hc x List.mem_cons_self]
      exact cntB_pos.2 List.mem_cons_self
    obtain ⟨u, v, e⟩ := List.append_of_mem (cntB_pos.1 h1)
    have hp : b.Perm (x :: (u ++ v)) := by rw [e]; exact List.perm_middle
    refine (List.Perm.cons x (perm_of_counts a (u ++ v) ?_ fun y hy => ?_)).trans hp.symm
    · have := hp.length_eq
      simp only [List.length_cons] at this h
      omega
    · have h2 := hc y (List.mem_cons_of_mem _ hy)
      rw [cntB_perm hp y] at h2
      unfold cntB at *
      rw [List.countP_cons, List.countP_cons] at h2
      omega
theorem perm_counts (a b : List ByteArray) : a.Perm b ↔ a.length = b.length ∧ ∀ x ∈ a, cntB a x = cntB b x :=
  ⟨fun h => ⟨h.length_eq, fun x _ => cntB_perm h x⟩, fun h => perm_of_counts a b h.1 h.2⟩
theorem map_eq_len {α β : Type} {f : α → β} {a b : List α} (h : a.map f = b.map f) : a.length = b.length := by
  have := congrArg List.length h
  simpa using this
end Go.Proofs.YthnlnffmmioapaaGreatDoor
namespace Go.Proofs.YthnlnffmmioapaaGreatDoor
def addP (k : Int) (j : Nat) (x : Cnd) : List UInt8 := (if j = 0 then [] else 32 :: (wrdK k ++ [32])) ++ parW (parK k x.kind) x.prt
theorem prtS_snoc (k : Int) (x : Cnd) : ∀ l : List Cnd, Cnd.prtS k (l ++ [x]) = Cnd.prtS k l ++ addP k 1 x
  | [] => by
    simp only [List.nil_append, Cnd.prtS]
    unfold addP
    simp
  | y :: l => by
    simp only [List.cons_append, Cnd.prtS, prtS_snoc k x l]
    simp
theorem prtJ_snoc (k : Int) (l : List Cnd) (x : Cnd) : Cnd.prtJ k (l ++ [x]) = Cnd.prtJ k l ++ addP k l.length x := by
  cases l with
  | nil =>
    simp only [List.nil_append, Cnd.prtJ, Cnd.prtS]
    unfold addP
    simp
  | cons y l =>
    simp only [List.cons_append, Cnd.prtJ, prtS_snoc]
    unfold addP
    simp
theorem prtJ_step (k : Int) (ps : List Cnd) (j : Nat) (h : j < ps.length) : Cnd.prtJ k (ps.take (j + 1)) = Cnd.prtJ k (ps.take j) ++ addP k j ps[j] := by
  rw [List.take_succ_eq_append_getElem h, prtJ_snoc, List.length_take, Nat.min_eq_left (Nat.le_of_lt h)]
theorem prtJ_le (k : Int) (ps : List Cnd) : ∀ j, (Cnd.prtJ k (ps.take j)).length ≤ (Cnd.prtJ k ps).length := by
  have hs : ∀ j, (Cnd.prtJ k (ps.take j)).length ≤ (Cnd.prtJ k (ps.take (j + 1))).length := fun j => by
    by_cases h : j < ps.length
    · rw [prtJ_step k ps j h, List.length_append];omega
    · rw [List.take_of_length_le (by omega), List.take_of_length_le (by omega)]
      exact Nat.le_refl _
  have hd : ∀ d j, (Cnd.prtJ k (ps.take j)).length ≤ (Cnd.prtJ k (ps.take (j + d))).length := fun d => by
    induction d with
    | zero => intro j; exact Nat.le_refl _
    | succ d ih => intro j; exact Nat.le_trans (ih j) (hs (j + d))
  intro j
  have := hd ps.length j
  rwa [List.take_of_length_le (l := ps) (i := j + ps.length) (by omega)] at this
theorem prt_eq (x : Cnd) : x.prt = if 11 ≤ x.kind then (if x.kind = 13 then wrdK x.kind ++ 32 :: Cnd.prtF x.kind x.parts else Cnd.prtJ x.kind x.parts) else wrdK x.kind ++ ((if numK x.kind then 32 :: Lib.itoa x.num else []) ++ if txtK x.kind then 32 :: 34 :: (byts x.text ++ [34]) else []) := by
  cases x
  rw [Cnd.prt]
  rfl
theorem itoa_small : ∀ n : Nat, n < 1001 → (Lib.itoa (n : Int)).length ≤ 4 := by decide +kernel
theorem wrdK_len (k : Int) : (wrdK k).length ≤ 12 := by
  unfold wrdK
  rcases Nat.lt_or_ge k.toNat 14 with h | h
  · generalize k.toNat = n at h
    revert n
    decide
  · rw [List.getD_eq_getElem?_getD, List.getElem?_eq_none (by simpa using h)]
    simp
theorem parW_len (b : Bool) (l : List UInt8) : (parW b l).length ≤ l.length + 2 := by
  unfold parW
  split <;> simp <;> omega
theorem prt_len : ∀ (d : Nat) (x : Cnd), x.depth ≤ d → x.own = true → x.prt.length + 10 ≤ 100 * x.cnt
  | 0, x, hd, _ => by have := depth_pos x;omega
  | d + 1, x, hd, ho => by
    have hon := ho
    rw [own_eq, Bool.and_eq_true, List.all_eq_true] at hon
    obtain ⟨hnd, hon⟩ := hon
    unfold nodeB at hnd
    obtain ⟨n1, n2, n3, n4, n5, n6, n7, n8, n9⟩ := of_decide_eq_true hnd
    have ih : ∀ y ∈ x.parts, y.prt.length + 10 ≤ 100 * y.cnt := fun y hy => prt_len d y (by have := depth_in hy;omega) (hon y hy)
    have hc := cnt_eq x
    have hw := wrdK_len x.kind
    rw [prt_eq]
    by_cases h11 : 11 ≤ x.kind
    · rw [if_pos h11]
      by_cases h13 : x.kind = 13
      · rw [if_pos h13, List.length_append, List.length_cons]
        cases hp : x.parts with
        | nil =>
          rw [Cnd.prtF, List.length_nil]
          omega
        | cons y ys =>
          rw [Cnd.prtF]
          have h1 := ih y (by rw [hp]; exact List.mem_cons_self)
          have h2 := parW_len (parK x.kind y.kind) y.prt
          rw [hp, List.map_cons, List.sum_cons] at hc
          omega
      · rw [if_neg h13]
        have key : ∀ j, (Cnd.prtJ x.kind (x.parts.take j)).length ≤ 100 * ((x.parts.map Cnd.cnt).take j).sum := fun j => by
          induction j with
          | zero => simp [Cnd.prtJ]
          | succ j ihj =>
            by_cases h : j < x.parts.length
            · rw [prtJ_step _ _ _ h, List.length_append, sum_take _ _ (by rw [List.length_map]; exact h), List.getElem_map]
              have h1 := ih _ (List.getElem_mem h)
              have h2 := parW_len (parK x.kind x.parts[j].kind) x.parts[j].prt
              have h3 : (addP x.kind j x.parts[j]).length ≤ x.parts[j].prt.length + 2 + 14 := by
                unfold addP
                rw [List.length_append]
                split
                · simp;omega
                · rw [List.length_cons, List.length_append]; simp;omega
              have hwk : (wrdK x.kind).length ≤ 3 := by
                have : x.kind = 11 ∨ x.kind = 12 := by omega
                rcases this with e | e <;> rw [e] <;> decide
              have h4 : (addP x.kind j x.parts[j]).length ≤ x.parts[j].prt.length + 2 + 5 := by
                unfold addP
                rw [List.length_append]
                split
                · simp;omega
                · rw [List.length_cons, List.length_append]; simp;omega
              omega
            · rw [List.take_of_length_le (by omega)] at ihj ⊢
              rw [List.take_of_length_le (by rw [List.length_map];omega)] at ihj ⊢
              exact ihj
        have := key x.parts.length
        rw [List.take_length, List.take_of_length_le (by simp)] at this
        omega
    · rw [if_neg h11, List.length_append, List.length_append]
      obtain ⟨m, hm⟩ := Int.eq_ofNat_of_zero_le n3
      have hi := itoa_small m (by omega)
      rw [← hm] at hi
      have h1 : ((if numK x.kind then 32 :: Lib.itoa x.num else []) : List UInt8).length ≤ 5 := by
        split
        · rw [List.length_cons];omega
        · simp
      have h2 : ((if txtK x.kind then 32 :: 34 :: (byts x.text ++ [34]) else []) : List UInt8).length ≤ 67 := by
        cases ht : txtK x.kind
        · simp
        · have := (patE_len (n7 ht)).1
          have hb := byts_len x.text
          simp
          omega
      omega
end Go.Proofs.YthnlnffmmioapaaGreatDoor
namespace Go.Proofs.YthnlnffmmioapaaGreatDoor
open Go.RowKit
def RdnV (w : World) (r : Rdn) (v : Value) : Prop := ∃ wv sv, v = .agg #[wv, sv] ∧ Strs w wv r.words ∧ Ints w sv r.src
theorem RdnV.below {w w' : World} {r : Rdn} {v : Value} (h : RdnV w r v) (hb : Below w.heap.size w w') : RdnV w' r v := by
  obtain ⟨a, b, h1, h2, h3⟩ := h
  exact ⟨a, b, h1, h2.below hb, h3.below hb⟩
def RulV (w : World) (r : Rul) (v : Value) : Prop := ∃ a b c d, v = .agg #[.string r.name, a, b, c, d] ∧ Exp w r.cnd (.agg #[a, b, c, d]) ∧ r.name.size ≤ 140737488355328
theorem RulV.below {w w' : World} {r : Rul} {v : Value} (h : RulV w r v) (hb : Below w.heap.size w w') : RulV w' r v := by
  obtain ⟨a, b, c, d, h1, h2, h3⟩ := h
  exact ⟨a, b, c, d, h1, h2.below hb, h3⟩
def Rdns (w : World) (v : Value) (l : List Rdn) : Prop := ∃ g, Sl2 w v 2 l.length g ∧ ∀ j, (h : j < l.length) → RdnV w l[j] (.agg #[g j 0, g j 1])
theorem Rdns.below {w w' : World} {l : List Rdn} {v : Value} (h : Rdns w v l) (hb : Below w.heap.size w w') : Rdns w' v l := by
  obtain ⟨g, h1, h2⟩ := h
  exact ⟨g, h1.below hb, fun j hj => (h2 j hj).below hb⟩
def Ruls (w : World) (v : Value) (l : List Rul) : Prop := ∃ g, Sl2 w v 5 l.length g ∧ (∀ j, (h : j < l.length) → RulV w l[j] (.agg #[g j 0, g j 1, g j 2, g j 3, g j 4])) ∧ ∀ a k c, v = .slice a k c → k ≤ c
theorem Ruls.below {w w' : World} {l : List Rul} {v : Value} (h : Ruls w v l) (hb : Below w.heap.size w w') : Ruls w' v l := by
  obtain ⟨g, h1, h2, h3⟩ := h
  exact ⟨g, h1.below hb, fun j hj => (h2 j hj).below hb, h3⟩
def UniV (w : World) (u : List Rdn) (v : Value) : Prop := ∃ a b c, v = .agg #[a, b, c] ∧ Rdns w c u
theorem UniV.below {w w' : World} {u : List Rdn} {v : Value} (h : UniV w u v) (hb : Below w.heap.size w w') : UniV w' u v := by
  obtain ⟨a, b, c, h1, h2⟩ := h
  exact ⟨a, b, c, h1, h2.below hb⟩
def Unis (w : World) (v : Value) (l : List (List Rdn)) : Prop := ∃ g, Sl2 w v 3 l.length g ∧ ∀ j, (h : j < l.length) → UniV w l[j] (.agg #[g j 0, g j 1, g j 2])
theorem Unis.below {w w' : World} {l : List (List Rdn)} {v : Value} (h : Unis w v l) (hb : Below w.heap.size w w') : Unis w' v l := by
  obtain ⟨g, h1, h2⟩ := h
  exact ⟨g, h1.below hb, fun j hj => (h2 j hj).below hb⟩
def Wtb (w : World) (v : Value) (l : List (List ByteArray)) : Prop := ∃ e, Sl w v 1 l.length e ∧ ∀ j, (h : j < l.length) → Strs w (e j) l[j]
theorem Wtb.below {w w' : World} {l : List (List ByteArray)} {v : Value} (h : Wtb w v l) (hb : Below w.heap.size w w') : Wtb w' v l := by
  obtain ⟨g, h1, h2⟩ := h
  exact ⟨g, h1.below hb, fun j hj => (h2 j hj).below hb⟩
theorem Exp.shape {w : World} {x : Cnd} {v : Value} (h : Exp w x v) : ∃ pv g, v = .agg #[.int .i64 x.kind, .int .i64 x.num, .string x.text, pv] ∧ x.text.size ≤ 140737488355328 ∧ Sl2 w pv 4 x.parts.length g ∧ ∀ j, (h : j < x.parts.length) → Exp w x.parts[j] (.agg #[g j 0, g j 1, g j 2, g j 3]) := by
  cases x with
  | mk k n s ps =>
    unfold Exp at h
    obtain ⟨pv, g, h1, h2, h3, h4⟩ := h
    refine ⟨pv, g, h1, h2, h3, fun j hj => ?_⟩
    have := h4.at j hj
    rwa [Nat.zero_add] at this
end Go.Proofs.YthnlnffmmioapaaGreatDoor
namespace Go.Proofs.YthnlnffmmioapaaGreatDoor
open Go.RowKit
section
variable {P : Program} {n : Nat} {w0 : World} {K : Fm → List Res → Prop} {F : Fm} {L : List Res} {m : Md} {ops : Array Oper} {rest : List Oper} {d : Option Nat} {ty : TypeId} {pos : String} {aft : Array Edge}
theorem OKx_idxAs {t len e sz : Nat} {zs : List Value} [T : TAgg P e sz zs] (hu : P.underlying t = some (.array len e)) {x ix : Operand} {g o : Nat} {k : IntKind} {i : Int} (hx : rv n F x = .pointer (some ⟨g, o, none⟩)) (hix : rv n F ix = .int k i) (h0 : 0 ≤ i) (h1 : i < len)
    (kk : OKx P n w0 m ops K rest (updo F d (.pointer (some ⟨g, o + i.toNat * sz, none⟩))) L) : OKx P n w0 m ops K (⟨d, .indexAddr t x ix, ty, pos, aft, none⟩ :: rest) F L := by
  obtain ⟨j, rfl⟩ := Int.eq_ofNat_of_zero_le h0
  exact OKx_still (fun w _ _ _ _ _ => by
    have hu' : (underlying t).run P w = .ok (.array len e) w := by simp [underlying, program, Sem.run_bind, Sem.run, hu, Result.andThen]
    have h1' : j < len := by omega
    simp [execOp, Instr.indexAt, hx, hix, asIntOf, Sem.run_bind, hu', T.size, Result.andThen, Instr.sureAddr, h1', add_at]) kk
end
def kdC (i c : Nat) : Value := match c with
  | 0 => .string (bOf (wrdK i))
  | 1 => .bool (numK i)
  | 2 => .bool (txtK i)
  | 3 => .int .i64 (lstK i)
  | _ => .int .i64 (mstK i)
def KdL (w : World) : Prop := ∀ i, i < 14 → ∀ c, c < 5 → w.cell? ⟨1, i * 5 + c, none⟩ = some (kdC i c)
theorem KdL.below {w w' : World} (h : KdL w) (hb : Below w.heap.size w w') : KdL w' := fun i hi c hc => (hb.cell (World.block_lt_of_cell? w _ (h i hi c hc))).trans (h i hi c hc)
theorem KdL.pt {w : World} (h : KdL w) (i : Nat) (hi : i < 14) : Pt w (.pointer (some ⟨1, i * 5, none⟩)) 5 (kdC i) := ⟨_, _, rfl, h i hi⟩
theorem kdC_eq (i : Nat) : ((List.range 5).map (kdC i)).toArray = #[.string (bOf (wrdK i)), .bool (numK i), .bool (txtK i), .int .i64 (lstK i), .int .i64 (mstK i)] := rfl
def kfC (i : Nat) : Value := .func (.func ([0, 159, 160, 161, 162, 166, 168, 169, 170, 172, 173].getD i 0)) #[] #[]
def KfL (w : World) : Prop := ∀ i, 0 < i → i < 11 → w.cell? ⟨0, i, none⟩ = some (kfC i)
theorem KfL.below {w w' : World} (h : KfL w) (hb : Below w.heap.size w w') : KfL w' := fun i h0 hi => (hb.cell (World.block_lt_of_cell? w _ (h i h0 hi))).trans (h i h0 hi)
end Go.Proofs.YthnlnffmmioapaaGreatDoor
namespace Go.Proofs.YthnlnffmmioapaaGreatDoor
open Go.RowKit
def maskS (n : Nat) (S : List Nat) : Array Bool := ((List.range n).map fun i => memN i S).toArray
section
variable {P : Program} {n : Nat} {w0 : World} {Q : Exit → Fm → List Res → Prop} {K : Fm → List Res → Prop} {F : Fm} {L : List Res} {l : List Oper} {N f : Nat} {S : List Nat}
def OKa (P : Program) (n : Nat) (w0 : World) (K : Fm → List Res → Prop) (l : List Oper) (N f : Nat) (S : List Nat) (F : Fm) (L : List Res) : Prop :=
  ∀ w a, Fr n a F → Hp w0.heap.size w0 w L → wpAny P .any l.toArray (liftN n w0 K) f (maskS N S) a w
theorem OKa.use (h : OKa P n w0 K l N f S F L) : ∀ w a, Fr n a F → Hp w0.heap.size w0 w L → wpAny P .any l.toArray (liftN n w0 K) f (maskS N S) a w := h
def kidOk (l : List Oper) (N : Nat) (S : List Nat) (i : Nat) (S' : List Nat) : Bool := (maskS N S').toList == ((maskS N S).setIfInBounds i true).toList
theorem kidOk_eq {i : Nat} {S' : List Nat} (h : kidOk l N S i S' = true) : maskS N S' = (maskS N S).setIfInBounds i true := by
  unfold kidOk at h
  exact Array.toList_inj.1 (beq_iff_eq.1 h)
end
attribute [irreducible] OKa
end Go.Proofs.YthnlnffmmioapaaGreatDoor
