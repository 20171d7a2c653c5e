/-
  Part 20 of the proof: Bld, Bk36. No statement of the seat is proved here.
-/
import Derived.Test.YtdigdmnnjbndlaaGreatDoorMHTx3619
import Derived.Lib.Join
import Derived.Shelf.Strings.BuilderF
import Derived.Shelf.Strings.OnBuilder
namespace Go.Proofs.YtdigdmnnjbndlaaGreatDoor
open Go.RowKit
def ren166 : Go.Shelf.Ren := ⟨fun | 166 => 59 | 240 => 101 | 276 => 133 | n => n,
  fun | 0 => 0 | 3 => 3 | 4 => 4 | 5 => 5 | 9 => 9 | 20 => 20 | 37 => 26 | 70 => 98 | 72 => 100 | 75 => 102 | 80 => 107 | 164 => 165 | n => n, fun | n => n⟩
theorem lays166 : Go.Proofs.Lays.n166 Tryz.prog ren166 := {
  mixed := by kernel_rfl
  f166 := Tryz.func59.trans (congrArg some (by kernel_rfl))
  f240 := Tryz.func101.trans (congrArg some (by kernel_rfl))
  f276 := Tryz.func133.trans (congrArg some (by kernel_rfl))
  t0 := Tryz.underlying0
  a0 := Tryz.isAgg0
  z0 := Tryz.sizeOf0
  v0 := Tryz.zeroValue0
  t3 := Tryz.underlying3
  a3 := Tryz.isAgg3
  z3 := Tryz.sizeOf3
  v3 := Tryz.zeroValue3
  t4 := Tryz.underlying4
  a4 := Tryz.isAgg4
  z4 := Tryz.sizeOf4
  v4 := Tryz.zeroValue4
  t9 := Tryz.underlying9
  a9 := Tryz.isAgg9
  z9 := Tryz.sizeOf9
  v9 := Tryz.zeroValue9
  t20 := Tryz.underlying20
  a20 := Tryz.isAgg20
  z20 := Tryz.sizeOf20
  v20 := Tryz.zeroValue20
  t37 := Tryz.underlying26
  a37 := Tryz.isAgg26
  z37 := Tryz.sizeOf26
  v37 := Tryz.zeroValue26
  t70 := Tryz.underlying98
  a70 := Tryz.isAgg98
  z70 := Tryz.sizeOf98
  v70 := Tryz.zeroValue98
  t72 := Tryz.underlying100
  a72 := Tryz.isAgg100
  z72 := Tryz.sizeOf100
  v72 := Tryz.zeroValue100
  t75 := Tryz.underlying102
  a75 := Tryz.isAgg102
  z75 := Tryz.sizeOf102
  v75 := Tryz.zeroValue102
  t164 := Tryz.underlying165
  a164 := Tryz.isAgg165
  z164 := Tryz.sizeOf165
  v164 := Tryz.zeroValue165 }
theorem extra166 : Builder.Extra Tryz.prog ren166 := {
  sizeBuilder := by kernel_rfl
  liesBuilder := by kernel_rfl
  t5 := Tryz.underlying5
  a5 := Tryz.isAgg5
  z5 := Tryz.sizeOf5
  v5 := Tryz.zeroValue5
  infoByte := by kernel_rfl
  cellsByte := by kernel_rfl
  sizeByte := by kernel_rfl
  neB5 := by decide }
def bldL (b : Nat) (p v : Value) (l : List UInt8) : List Res := [.box 100 b [p, v], .row 5 1 v l.length (Lib.byteCells l)]
def bldP (b : Nat) (p : Value) : Prop := p = .pointer none ∨ p = .pointer (some ⟨b, 0, none⟩)
theorem byteCells_len (l : List UInt8) : (Lib.byteCells l).length = l.length := by simp [Lib.byteCells]
theorem bldL_is {w0 w : World} {b : Nat} {p v : Value} {l : List UInt8} {K : List Res} (hp : bldP b p) (h : Hp w0.heap.size w0 w (bldL b p v l ++ K)) : Lib.IsBuilder 100 5 w0.heap.size b (Lib.byteCells l) w := by
  have hb : w0.heap.size ≤ b ∧ w.heap[b]? = some (.cells [p, v].toArray 100 (0, 0)) := h.ok _ List.mem_cons_self
  have hr : w.ownsRow w0.heap.size 5 1 v l.length (Lib.byteCells l) := h.ok _ (List.mem_cons_of_mem _ List.mem_cons_self)
  have hd : (some b : Option Nat) = none ∨ some b ≠ v.ownBlock := (List.pairwise_cons.1 h.dj).1 _ List.mem_cons_self
  have hne : v.ownBlock ≠ some b := by
    rcases hd with hd | hd
    · cases hd
    · exact fun e => hd e.symm
  rcases hp with rfl | rfl
  · exact .inl ⟨hb.1, v, hb.2, by rw [byteCells_len]; exact hr, hne⟩
  · exact .inr ⟨hb.1, v, hb.2, by rw [byteCells_len]; exact hr, hne⟩
set_option maxRecDepth 100000 in
set_option maxHeartbeats 4000000 in
theorem copyCheck_sat (b : Nat) (p v : Value) (w0 : World) (K : List Res) (hp : bldP b p) :
    SatL Tryz.prog 101 [.pointer (some ⟨b, 0, none⟩)] w0 (.box 100 b [p, v] :: K) (fun u L => u = .tuple #[] ∧ L = .box 100 b [.pointer (some ⟨b, 0, none⟩), v] :: K) :=
  ⟨⟨_, _, Tryz.func101, by kernel_rfl, rfl⟩, fun w h => by
    have hb : w0.heap.size ≤ b ∧ w.heap[b]? = some (.cells [p, v].toArray 100 (0, 0)) := h.ok _ List.mem_cons_self
    have hc0 : w.cell? ⟨b, 0, none⟩ = some p := by simp [World.cell?, hb.2]
    rcases hp with rfl | rfl
    · have hc : Calls Tryz.prog 101 #[.pointer (some ⟨b, 0, none⟩)] w fun e w' => e = .returned (.tuple #[]) ∧ w' = w.setCell ⟨b, 0, none⟩ (.pointer (some ⟨b, 0, none⟩)) :=
        Any.Builder_copyCheck_fresh { lays166 with } { extra166 with } b w hc0 (by simp [World.shape?, hb.2]; rfl) (by simp [World.frozen?, hb.2])
      refine hc.mono ?_
      rintro e w' ⟨rfl, rfl⟩
      exact ⟨_, _, rfl, h.setBox (i := 0) rfl 0 _, rfl, rfl⟩
    · have hc : Calls Tryz.prog 101 #[.pointer (some ⟨b, 0, none⟩)] w fun e w' => e = .returned (.tuple #[]) ∧ w' = w :=
        Any.Builder_copyCheck_used { lays166 with } { extra166 with } b w hc0
      refine hc.mono ?_
      rintro e w' ⟨rfl, rfl⟩
      exact ⟨_, _, rfl, h, rfl, rfl⟩⟩
section
variable {n : Nat} {w0 : World} {K : Fm → List Res → Prop} {F : Fm} {L : List Res} {Lw : List Res} {ops : Array Oper} {rest : List Oper} {d : Option Nat} {ty : TypeId} {pos : String} {aft : Array Edge}
theorem blk_new {g k : Nat} {N c : Nat} {v' : Value} (e : v' = .slice (some ⟨g, 0, none⟩) N c) (hk : v'.ownBlock = some k) : k = g := by
  subst e
  simp only [Value.ownBlock, Option.some.injEq] at hk
  exact hk.symm
theorem OKx_appStr {s x : Operand} [hE : Keeps w0 L Lw] (i : Nat) {v : Value} {N : Nat} {xs : List Value} {sb : ByteArray} (hs : rv n F s = v) (hx : rv n F x = .string sb) (hi : L[i]? = some (.row 5 1 v N xs)) (hN : N + sb.size ≤ 140737488355328)
    (kk : ∀ a c, OKx Tryz.prog n w0 (.seq Lw) ops K rest (updo F d (.slice a (N + sb.size) c)) (L.set i (.row 5 1 (.slice a (N + sb.size) c) (N + sb.size) (xs ++ Lib.strCells sb)))) :
    OKx Tryz.prog n w0 (.seq Lw) ops K (⟨d, .call { callee := .builtin .append, args := #[s, x], argTypes := #[26, 9] }, ty, pos, aft, none⟩ :: rest) F L := by
  refine OKx_actW hE.ent fun w a hfr hp => wp_of_list (ops := ops) rfl ?_
  have hown : w.ownsRow w0.heap.size 5 1 v N xs := hp.ok _ (List.mem_of_getElem? hi)
  have hown0 := hown
  obtain ⟨ti, hti, hz0, hz1, hz2⟩ := info_parts extra166.infoByte
  have hti : Tryz.prog.info? 5 = some ti := hti
  obtain ⟨v', w', hr, h2, h3, h4⟩ := Lib.run_append_own_string (P := Tryz.prog) w w0.heap.size 26 9 ty 5 ti Tryz.underlying26 Tryz.underlying9 hti hz0 hz1 hz2 v N xs hown sb (by unfold maxLen;omega) hN hp.base
  have hblk : ∀ k, v'.ownBlock = some k → v.ownBlock = some k ∨ w.heap.size ≤ k := by
    intro k hk
    have hxl : xs.length = N := by simpa using hown0.1
    rcases hown0.2 with ⟨rfl, rfl⟩ | ⟨g, cap, cur, rfl, hbg, hg, hnc, hcm, hcs, htake⟩
    · by_cases hm : sb.size = 0
      · rw [h4.2 ⟨rfl, hm⟩] at hk
        cases hk
      · have hr2 := run_append_nil_string (P := Tryz.prog) w 26 9 ty 5 ti (.int .u8 0) Tryz.underlying26 Tryz.underlying9 hti hz0 sb (by omega) (by omega) (by rw [hz2];omega)
        rw [hr] at hr2
        simp only [Result.ok.injEq] at hr2
        exact .inr (by rw [blk_new hr2.1 hk]; exact Nat.le_refl _)
    · by_cases hroom : N + sb.size ≤ cap
      · have hcs' : cur.size = cap := by simpa using hcs
        have hr2 := Lib.run_append_room_string (P := Tryz.prog) w 26 9 ty 5 ti Tryz.underlying26 Tryz.underlying9 hti hz1 g N cap cur hg sb hroom (by omega)
        rw [hr] at hr2
        simp only [Result.ok.injEq] at hr2
        exact .inl (by rw [blk_new hr2.1 hk]; rfl)
      · have holds : ∀ j u, xs[j]? = some u → w.cell? ((⟨g, 0, none⟩ : Addr).add j) = some u := hown.cells (g := g) rfl
        have hr2 := Lib.run_append_grow_string (P := Tryz.prog) w 26 9 ty 5 ti (.int .u8 0) Tryz.underlying26 Tryz.underlying9 hti hz0 ⟨g, 0, none⟩ N cap xs (by rw [hz1]; simpa using hxl) holds sb (by omega) (by omega) (by rw [hz2]; exact growslice_fits (by omega) (by omega))
        rw [hr] at hr2
        simp only [Result.ok.injEq] at hr2
        exact .inr (by rw [blk_new hr2.1 hk]; exact Nat.le_refl _)
  obtain ⟨a2, c2, rfl⟩ : ∃ a2 c2, v' = .slice a2 (N + sb.size) c2 := by
    rcases h2.2 with ⟨rfl, h0⟩ | ⟨g, cap, cur, rfl, _⟩
    · exact ⟨none, 0, by rw [h0]⟩
    · exact ⟨_, _, rfl⟩
  refine wpList_plain rfl fun K' hK' => ?_
  unfold Oper.wp execOp
  simp only [resolve, invoke, builtin, Sem.run_bind, Sem.run_pure, Result.andThen_ok, List.map_toArray, List.map_cons, List.map_nil, hfr.eval, hs, hx, hr]
  exact hK' _ _ ⟨rfl, (kk a2 c2).use w' _ (hfr.put d _) (hp.turn hi h3 (r' := .row 5 1 (.slice a2 (N + sb.size) c2) (N + sb.size) (xs ++ Lib.strCells sb)) h2 hblk)⟩
end
theorem bytes_app (l : List UInt8) (s : ByteArray) : Lib.byteCells l ++ Lib.strCells s = Lib.byteCells (l ++ s.data.toList) := by
  have e : Lib.strCells s = Lib.byteCells s.data.toList := rfl
  rw [e]
  simp [Lib.byteCells]
set_option maxRecDepth 100000 in
set_option maxHeartbeats 4000000 in
theorem bldW_sat (b : Nat) (p v : Value) (l : List UInt8) (s : ByteArray) (w0 : World) (K : List Res) (hp : bldP b p) (hl : l.length + s.size ≤ 140737488355328) :
    SatL Tryz.prog 59 [.pointer (some ⟨b, 0, none⟩), .string s] w0 (bldL b p v l ++ K) (fun u L => u = .tuple #[.int .i64 s.size, .nilIface] ∧ ∃ v', L = bldL b (.pointer (some ⟨b, 0, none⟩)) v' (l ++ s.data.toList) ++ K) := by
  unfold bldL
  rw [List.cons_append, List.cons_append, List.nil_append]
  refine SatL.of 19 [4, 5] Tryz.func59 (by kernel_rfl) (by kernel_rfl) rfl rfl rfl rfl ?_
  repeat' (first|(apply OK_seq)|(apply thenQ_n)|(apply OK_region)|(apply OKx_gc 101;exact rfl; refine OKx_callL (f := 101) rfl rfl (copyCheck_sat b p v _ _ hp) ?_; rintro _ _ ⟨rfl, rfl⟩)|(apply OKx_gb; refine OKx_appStr 1 rfl rfl rfl (by omega) ?_; intro a2 c2)|(apply OKx_nilK)|(apply OK_block)|(apply blockQ_n)|(apply blockQ_s)|(apply thenQ_e)|(apply blockQ_e;exact rfl)|(apply thenQ_r)|(apply blockQ_r)|(apply OK_condT;exact rfl)|(apply OK_condF;exact rfl)|(apply OK_skip)|(apply OK_exit)|(apply OK_ret)|(apply OKx_move;(conv=>lhs;whnf)<;>exact rfl)|(apply OKx_assign;(conv=>lhs;whnf)<;>exact rfl)|(apply OKx_ldB;exact rfl;(first | exact at0|exact at1|exact at2|exact at3|exact at4|exact at5|exact at6|exact at7);exact rfl)|(apply OKx_ldR;(conv=>lhs;whnf)<;>exact rfl;(with_reducible assumption))|(apply OKx_lenS;exact rfl)|(apply OKx_fldO;exact rfl;exact rfl)|(apply OKx_fldR;(conv=>lhs;whnf)<;>exact rfl;(with_reducible assumption); decide;intro _ _)|(apply OKx_stB;exact rfl;(conv=>lhs;whnf)<;>exact rfl;exact rfl;exact rfl;(first | exact at0|exact at1|exact at2|exact at3|exact at4|exact at5|exact at6|exact at7);exact rfl;exact rfl;exact rfl)|(apply OKx_nilCheck;exact rfl))
  refine bodyQ_r2 (by ((conv=>lhs;whnf)<;>exact rfl)) (by ((conv=>lhs;whnf)<;>exact rfl)) ?_
  refine ⟨_, Ent.refl _ _, rfl, .slice a2 (l.length + s.size) c2, ?_⟩
  rw [bytes_app]
  have e : (l ++ s.data.toList).length = l.length + s.size := by rw [List.length_append]; rfl
  rw [e]
  rfl
set_option maxRecDepth 100000 in
set_option maxHeartbeats 4000000 in
theorem bldLen_sat (b : Nat) (p v : Value) (l : List UInt8) (w0 : World) (K : List Res) (hp : bldP b p) :
    SatL Tryz.prog 61 [.pointer (some ⟨b, 0, none⟩)] w0 (bldL b p v l ++ K) (fun u L => u = .int .i64 l.length ∧ L = bldL b p v l ++ K) :=
  ⟨⟨_, _, Tryz.func61, by kernel_rfl, rfl⟩, fun w h => by
    refine (Tryz.Builder_Len w0.heap.size b (Lib.byteCells l) w (bldL_is hp h)).mono ?_
    rintro e w' ⟨rfl, rfl⟩
    exact ⟨_, _, rfl, h, by rw [byteCells_len], rfl⟩⟩
-- Behind String() what the builder holds is not owned any more.
set_option maxRecDepth 100000 in
set_option maxHeartbeats 4000000 in
theorem bldStr_sat (b : Nat) (p v : Value) (l : List UInt8) (w0 : World) (K : List Res) (hp : bldP b p) :
    SatL Tryz.prog 62 [.pointer (some ⟨b, 0, none⟩)] w0 (bldL b p v l ++ K) (fun u L => u = .string (bOf l) ∧ L = []) :=
  ⟨⟨_, _, Tryz.func62, by kernel_rfl, rfl⟩, fun w h => by
    refine (Tryz.Builder_String_any w0.heap.size b l w (bldL_is hp h) h.base).mono ?_
    rintro e w' ⟨rfl, hb⟩
    exact ⟨_, [], rfl, ⟨h.below.trans hb, Nat.le_trans h.base hb.size, fun r hr => absurd hr List.not_mem_nil, List.Pairwise.nil⟩, rfl, rfl⟩⟩
def jnS (xs : List ByteArray) : List UInt8 := Lib.join (xs.map (·.data.toList)) [32]
set_option maxRecDepth 100000 in
set_option maxHeartbeats 4000000 in
theorem join_sat (v : Value) (xs : List ByteArray) (w : World) (h : Strs w v xs) (hl : (jnS xs).length ≤ 140737488355328) : SatV Tryz.prog 60 [v, .string ⟨#[32]⟩] w (.string (bOf (jnS xs))) :=
  Sat.lib ⟨_, _, Tryz.func60, by kernel_rfl, rfl⟩ fun w1 hb => by
    have h := h.below hb
    obtain ⟨⟨hn, ⟨a, cap, rfl, hc⟩, hr⟩, _⟩ := h
    rcases hc with h0 | ⟨b, off, rfl, hc⟩
    · have hx : xs = [] := List.eq_nil_of_length_eq_zero h0
      subst hx
      refine (Tryz.strings_Join_none a cap ⟨#[32]⟩ w1).mono ?_
      rintro e w' ⟨rfl, rfl⟩
      exact ⟨_, [], rfl, Hp.refl _, rfl, rfl⟩
    · by_cases h0 : xs.length = 0
      · have hx : xs = [] := List.eq_nil_of_length_eq_zero h0
        subst hx
        refine (Tryz.strings_Join_none (some ⟨b, off, none⟩) cap ⟨#[32]⟩ w1).mono ?_
        rintro e w' ⟨rfl, rfl⟩
        exact ⟨_, [], rfl, Hp.refl _, rfl, rfl⟩
      have hbk : b < w1.heap.size := by
        have := hc 0 (by omega)
        unfold World.cell? at this
        cases h : w1.heap[b]? with
        | none => simp [h] at this
        | some o => exact (Array.getElem?_eq_some_iff.1 h).1
      refine (Tryz.strings_Join b off cap xs ⟨#[32]⟩ w1 (fun j x hj => ?_) hbk hn (hr _ _ _ rfl) hl).mono ?_
      · have hj2 := (List.getElem?_eq_some_iff.1 hj).1
        rw [hc j (by omega), List.getD_eq_getElem?_getD, hj]
        rfl
      · rintro e w' ⟨rfl, hb2⟩
        exact ⟨_, [], rfl, ⟨hb2, hb2.size, fun r hr => absurd hr List.not_mem_nil, List.Pairwise.nil⟩, rfl, rfl⟩
end Go.Proofs.YtdigdmnnjbndlaaGreatDoor
namespace Go.Proofs.YtdigdmnnjbndlaaGreatDoor
def lnP (s : Stem) (i : Nat) : List ByteArray :=
  s.names.getD i ByteArray.empty :: (if s.ext.getD i false = true then w36e else w36l) :: ((if (s.par.getD i []).length = 0 then [] else [w36f]) ++ (s.par.getD i []).map fun p => s.names.getD p.toNat ByteArray.empty)
def jn (ws : List ByteArray) : List UInt8 := Lib.join (ws.map (·.data.toList)) [32]
def lnT (ws : List ByteArray) : List UInt8 := jn ws ++ [10]
def prK (s : Stem) (k : Nat) : List UInt8 := (List.range k).flatMap fun i => lnT (lnP s i)
def prT (s : Stem) : List UInt8 := prK s s.names.length
def prE (s : Stem) : Int := if stCheck s ≠ 0 then 1 else if 65536 < (prT s).length then 4 else 0
theorem prK_step (s : Stem) (k : Nat) : prK s (k + 1) = prK s k ++ lnT (lnP s k) := by
  unfold prK
  rw [List.range_succ, List.flatMap_append]
  simp
theorem jn_one (x : ByteArray) : jn [x] = x.data.toList := Lib.join_one _ _
theorem jn_cons (x y : ByteArray) (r : List ByteArray) : jn (x :: y :: r) = x.data.toList ++ 32 :: jn (y :: r) := by
  unfold jn
  rw [List.map_cons, List.map_cons, Lib.join_cons, Lib.join_cons]
  simp [Lib.joinTail]
theorem stCheck_nm (s : Stem) (h : stCheck s = 0) (k : Nat) (hk : k < s.names.length) : leafNm s.names[k] = true ∧ Lib.containsS (s.names.take k) s.names[k] = false := by
  obtain ⟨_, _, _, hp, hf⟩ := stCheck_len s h
  have h0 := firstErr_zero _ _ hf k hk
  have := stAt_zero s k hk (by omega) h0
  exact ⟨this.1, this.2.1⟩
theorem psE_parts {t : ByteArray} (h : psE t = 0) : t.size ≤ 65536 ∧ (linW t.data.toList).all okL = true ∧ (linW t.data.toList).all (fndB (nmL (linW t.data.toList))) = true ∧ stCheck (psS t) = 0 := by
  unfold psE at h
  by_cases h1 : 65536 < t.size
  · rw [if_pos h1] at h;omega
  rw [if_neg h1] at h
  by_cases h2 : (linW t.data.toList).all okL = false
  · rw [if_pos h2] at h;omega
  rw [if_neg h2] at h
  by_cases h3 : (linW t.data.toList).all (fndB (nmL (linW t.data.toList))) = false
  · rw [if_pos h3] at h;omega
  rw [if_neg h3] at h
  exact ⟨by omega, by rwa [Bool.not_eq_false] at h2, by rwa [Bool.not_eq_false] at h3, h⟩
end Go.Proofs.YtdigdmnnjbndlaaGreatDoor
