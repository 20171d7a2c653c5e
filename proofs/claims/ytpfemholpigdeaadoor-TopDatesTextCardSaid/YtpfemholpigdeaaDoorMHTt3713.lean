/-
  Part 13 of the proof: Bld, Bk36. No statement of the seat is proved here.
-/
import Derived.Test.YtpfemholpigdeaaDoorMHTt3712
import Derived.Lib.Join
import Derived.Shelf.Strings.BuilderF
import Derived.Shelf.Strings.OnBuilder
namespace Go.Proofs.YtpfemholpigdeaaDoor
open Go.RowKit
def ren166 : Go.Shelf.Ren := ⟨fun | 166 => 39 | 240 => 70 | 276 => 95 | n => n,
  fun | 0 => 0 | 3 => 3 | 4 => 4 | 5 => 5 | 9 => 9 | 20 => 20 | 37 => 72 | 70 => 71 | 72 => 74 | 75 => 76 | 80 => 81 | 164 => 130 | n => n, fun | n => n⟩
theorem lays166 : Go.Proofs.Lays.n166 Tryd.prog ren166 := {
  mixed := by kernel_rfl
  f166 := Tryd.func39.trans (congrArg some (by kernel_rfl))
  f240 := Tryd.func70.trans (congrArg some (by kernel_rfl))
  f276 := Tryd.func95.trans (congrArg some (by kernel_rfl))
  t0 := Tryd.underlying0
  a0 := Tryd.isAgg0
  z0 := Tryd.sizeOf0
  v0 := Tryd.zeroValue0
  t3 := Tryd.underlying3
  a3 := Tryd.isAgg3
  z3 := Tryd.sizeOf3
  v3 := Tryd.zeroValue3
  t4 := Tryd.underlying4
  a4 := Tryd.isAgg4
  z4 := Tryd.sizeOf4
  v4 := Tryd.zeroValue4
  t9 := Tryd.underlying9
  a9 := Tryd.isAgg9
  z9 := Tryd.sizeOf9
  v9 := Tryd.zeroValue9
  t20 := Tryd.underlying20
  a20 := Tryd.isAgg20
  z20 := Tryd.sizeOf20
  v20 := Tryd.zeroValue20
  t37 := Tryd.underlying72
  a37 := Tryd.isAgg72
  z37 := Tryd.sizeOf72
  v37 := Tryd.zeroValue72
  t70 := Tryd.underlying71
  a70 := Tryd.isAgg71
  z70 := Tryd.sizeOf71
  v70 := Tryd.zeroValue71
  t72 := Tryd.underlying74
  a72 := Tryd.isAgg74
  z72 := Tryd.sizeOf74
  v72 := Tryd.zeroValue74
  t75 := Tryd.underlying76
  a75 := Tryd.isAgg76
  z75 := Tryd.sizeOf76
  v75 := Tryd.zeroValue76
  t164 := Tryd.underlying130
  a164 := Tryd.isAgg130
  z164 := Tryd.sizeOf130
  v164 := Tryd.zeroValue130 }
theorem extra166 : Builder.Extra Tryd.prog ren166 := {
  sizeBuilder := by kernel_rfl
  liesBuilder := by kernel_rfl
  t5 := Tryd.underlying5
  a5 := Tryd.isAgg5
  z5 := Tryd.sizeOf5
  v5 := Tryd.zeroValue5
  infoByte := by kernel_rfl
  cellsByte := by kernel_rfl
  sizeByte := by kernel_rfl
  neB5 := by decide }
def bldL (b : Nat) (p v : Value) (l : List UInt8) : List Res := [.box 74 b [p, v], .row 5 1 v l.length (Lib.byteCells l)]
def bldP (b : Nat) (p : Value) : Prop := p = .pointer none ∨ p = .pointer (some ⟨b, 0, none⟩)
theorem byteCells_len (l : List UInt8) : (Lib.byteCells l).length = l.length := by simp [Lib.byteCells]
theorem bldL_is {w0 w : World} {b : Nat} {p v : Value} {l : List UInt8} {K : List Res} (hp : bldP b p) (h : Hp w0.heap.size w0 w (bldL b p v l ++ K)) : Lib.IsBuilder 74 5 w0.heap.size b (Lib.byteCells l) w := by
  have hb : w0.heap.size ≤ b ∧ w.heap[b]? = some (.cells [p, v].toArray 74 (0, 0)) := h.ok _ List.mem_cons_self
  have hr : w.ownsRow w0.heap.size 5 1 v l.length (Lib.byteCells l) := h.ok _ (List.mem_cons_of_mem _ List.mem_cons_self)
  have hd : (some b : Option Nat) = none ∨ some b ≠ v.ownBlock := (List.pairwise_cons.1 h.dj).1 _ List.mem_cons_self
  have hne : v.ownBlock ≠ some b := by
    rcases hd with hd | hd
    · cases hd
    · exact fun e => hd e.symm
  rcases hp with rfl | rfl
  · exact .inl ⟨hb.1, v, hb.2, by rw [byteCells_len]; exact hr, hne⟩
  · exact .inr ⟨hb.1, v, hb.2, by rw [byteCells_len]; exact hr, hne⟩
set_option maxRecDepth 100000 in
set_option maxHeartbeats 4000000 in
theorem copyCheck_sat (b : Nat) (p v : Value) (w0 : World) (K : List Res) (hp : bldP b p) :
    SatL Tryd.prog 70 [.pointer (some ⟨b, 0, none⟩)] w0 (.box 74 b [p, v] :: K) (fun u L => u = .tuple #[] ∧ L = .box 74 b [.pointer (some ⟨b, 0, none⟩), v] :: K) :=
  ⟨⟨_, _, Tryd.func70, by kernel_rfl, rfl⟩, fun w h => by
    have hb : w0.heap.size ≤ b ∧ w.heap[b]? = some (.cells [p, v].toArray 74 (0, 0)) := h.ok _ List.mem_cons_self
    have hc0 : w.cell? ⟨b, 0, none⟩ = some p := by simp [World.cell?, hb.2]
    rcases hp with rfl | rfl
    · have hc : Calls Tryd.prog 70 #[.pointer (some ⟨b, 0, none⟩)] w fun e w' => e = .returned (.tuple #[]) ∧ w' = w.setCell ⟨b, 0, none⟩ (.pointer (some ⟨b, 0, none⟩)) :=
        Any.Builder_copyCheck_fresh { lays166 with } { extra166 with } b w hc0 (by simp [World.shape?, hb.2]; rfl) (by simp [World.frozen?, hb.2])
      refine hc.mono ?_
      rintro e w' ⟨rfl, rfl⟩
      exact ⟨_, _, rfl, h.setBox (i := 0) rfl 0 _, rfl, rfl⟩
    · have hc : Calls Tryd.prog 70 #[.pointer (some ⟨b, 0, none⟩)] w fun e w' => e = .returned (.tuple #[]) ∧ w' = w :=
        Any.Builder_copyCheck_used { lays166 with } { extra166 with } b w hc0
      refine hc.mono ?_
      rintro e w' ⟨rfl, rfl⟩
      exact ⟨_, _, rfl, h, rfl, rfl⟩⟩
section
variable {n : Nat} {w0 : World} {K : Fm → List Res → Prop} {F : Fm} {L : List Res} {Lw : List Res} {ops : Array Oper} {rest : List Oper} {d : Option Nat} {ty : TypeId} {pos : String} {aft : Array Edge}
theorem blk_new {g k : Nat} {N c : Nat} {v' : Value} (e : v' = .slice (some ⟨g, 0, none⟩) N c) (hk : v'.ownBlock = some k) : k = g := by
  subst e
  simp only [Value.ownBlock, Option.some.injEq] at hk
  exact hk.symm
theorem OKx_appStr {s x : Operand} [hE : Keeps w0 L Lw] (i : Nat) {v : Value} {N : Nat} {xs : List Value} {sb : ByteArray} (hs : rv n F s = v) (hx : rv n F x = .string sb) (hi : L[i]? = some (.row 5 1 v N xs)) (hN : N + sb.size ≤ 140737488355328)
    (kk : ∀ a c, OKx Tryd.prog n w0 (.seq Lw) ops K rest (updo F d (.slice a (N + sb.size) c)) (L.set i (.row 5 1 (.slice a (N + sb.size) c) (N + sb.size) (xs ++ Lib.strCells sb)))) :
    OKx Tryd.prog n w0 (.seq Lw) ops K (⟨d, .call { callee := .builtin .append, args := #[s, x], argTypes := #[72, 9] }, ty, pos, aft, none⟩ :: rest) F L := by
  refine OKx_actW hE.ent fun w a hfr hp => wp_of_list (ops := ops) rfl ?_
  have hown : w.ownsRow w0.heap.size 5 1 v N xs := hp.ok _ (List.mem_of_getElem? hi)
  have hown0 := hown
  obtain ⟨ti, hti, hz0, hz1, hz2⟩ := info_parts extra166.infoByte
  have hti : Tryd.prog.info? 5 = some ti := hti
  obtain ⟨v', w', hr, h2, h3, h4⟩ := Lib.run_append_own_string (P := Tryd.prog) w w0.heap.size 72 9 ty 5 ti Tryd.underlying72 Tryd.underlying9 hti hz0 hz1 hz2 v N xs hown sb (by unfold maxLen;omega) hN hp.base
  have hblk : ∀ k, v'.ownBlock = some k → v.ownBlock = some k ∨ w.heap.size ≤ k := by
    intro k hk
    have hxl : xs.length = N := by simpa using hown0.1
    rcases hown0.2 with ⟨rfl, rfl⟩ | ⟨g, cap, cur, rfl, hbg, hg, hnc, hcm, hcs, htake⟩
    · by_cases hm : sb.size = 0
      · rw [h4.2 ⟨rfl, hm⟩] at hk
        cases hk
      · have hr2 := run_append_nil_string (P := Tryd.prog) w 72 9 ty 5 ti (.int .u8 0) Tryd.underlying72 Tryd.underlying9 hti hz0 sb (by omega) (by omega) (by rw [hz2];omega)
        rw [hr] at hr2
        simp only [Result.ok.injEq] at hr2
        exact .inr (by rw [blk_new hr2.1 hk]; exact Nat.le_refl _)
    · by_cases hroom : N + sb.size ≤ cap
      · have hcs' : cur.size = cap := by simpa using hcs
        have hr2 := Lib.run_append_room_string (P := Tryd.prog) w 72 9 ty 5 ti Tryd.underlying72 Tryd.underlying9 hti hz1 g N cap cur hg sb hroom (by omega)
        rw [hr] at hr2
        simp only [Result.ok.injEq] at hr2
        exact .inl (by rw [blk_new hr2.1 hk]; rfl)
      · have holds : ∀ j u, xs[j]? = some u → w.cell? ((⟨g, 0, none⟩ : Addr).add j) = some u := hown.cells (g := g) rfl
        have hr2 := Lib.run_append_grow_string (P := Tryd.prog) w 72 9 ty 5 ti (.int .u8 0) Tryd.underlying72 Tryd.underlying9 hti hz0 ⟨g, 0, none⟩ N cap xs (by rw [hz1]; simpa using hxl) holds sb (by omega) (by omega) (by rw [hz2]; exact growslice_fits (by omega) (by omega))
        rw [hr] at hr2
        simp only [Result.ok.injEq] at hr2
        exact .inr (by rw [blk_new hr2.1 hk]; exact Nat.le_refl _)
  obtain ⟨a2, c2, rfl⟩ : ∃ a2 c2, v' = .slice a2 (N + sb.size) c2 := by
    rcases h2.2 with ⟨rfl, h0⟩ | ⟨g, cap, cur, rfl, _⟩
    · exact ⟨none, 0, by rw [h0]⟩
    · exact ⟨_, _, rfl⟩
  refine wpList_plain rfl fun K' hK' => ?_
  unfold Oper.wp execOp
  simp only [resolve, invoke, builtin, Sem.run_bind, Sem.run_pure, Result.andThen_ok, List.map_toArray, List.map_cons, List.map_nil, hfr.eval, hs, hx, hr]
  exact hK' _ _ ⟨rfl, (kk a2 c2).use w' _ (hfr.put d _) (hp.turn hi h3 (r' := .row 5 1 (.slice a2 (N + sb.size) c2) (N + sb.size) (xs ++ Lib.strCells sb)) h2 hblk)⟩
end
theorem bytes_app (l : List UInt8) (s : ByteArray) : Lib.byteCells l ++ Lib.strCells s = Lib.byteCells (l ++ s.data.toList) := by
  have e : Lib.strCells s = Lib.byteCells s.data.toList := rfl
  rw [e]
  simp [Lib.byteCells]
set_option maxRecDepth 100000 in
set_option maxHeartbeats 4000000 in
theorem bldW_sat (b : Nat) (p v : Value) (l : List UInt8) (s : ByteArray) (w0 : World) (K : List Res) (hp : bldP b p) (hl : l.length + s.size ≤ 140737488355328) :
    SatL Tryd.prog 39 [.pointer (some ⟨b, 0, none⟩), .string s] w0 (bldL b p v l ++ K) (fun u L => u = .tuple #[.int .i64 s.size, .nilIface] ∧ ∃ v', L = bldL b (.pointer (some ⟨b, 0, none⟩)) v' (l ++ s.data.toList) ++ K) := by
  unfold bldL
  rw [List.cons_append, List.cons_append, List.nil_append]
  refine SatL.of 19 [4, 5] Tryd.func39 (by kernel_rfl) (by kernel_rfl) rfl rfl rfl rfl ?_
  repeat' (first|(apply OK_seq)|(apply thenQ_n)|(apply OK_region)|(apply OKx_gc 70;exact rfl; refine OKx_callL (f := 70) rfl rfl (copyCheck_sat b p v _ _ hp) ?_; rintro _ _ ⟨rfl, rfl⟩)|(apply OKx_gb; refine OKx_appStr 1 rfl rfl rfl (by omega) ?_; intro a2 c2)|(apply OKx_nilK)|(apply OK_block)|(apply blockQ_n)|(apply blockQ_s)|(apply thenQ_e)|(apply blockQ_e;exact rfl)|(apply thenQ_r)|(apply blockQ_r)|(apply OK_condT;exact rfl)|(apply OK_condF;exact rfl)|(apply OK_skip)|(apply OK_exit)|(apply OK_ret)|(apply OKx_move;(conv=>lhs;whnf)<;>exact rfl)|(apply OKx_assign;(conv=>lhs;whnf)<;>exact rfl)|(apply OKx_ldB;exact rfl;(first | exact at0|exact at1|exact at2|exact at3|exact at4|exact at5|exact at6|exact at7);exact rfl)|(apply OKx_ldR;(conv=>lhs;whnf)<;>exact rfl;(with_reducible assumption))|(apply OKx_lenS;exact rfl)|(apply OKx_fldO;exact rfl;exact rfl)|(apply OKx_fldR;(conv=>lhs;whnf)<;>exact rfl;(with_reducible assumption); decide;intro _ _)|(apply OKx_stB;exact rfl;(conv=>lhs;whnf)<;>exact rfl;exact rfl;exact rfl;(first | exact at0|exact at1|exact at2|exact at3|exact at4|exact at5|exact at6|exact at7);exact rfl;exact rfl;exact rfl)|(apply OKx_nilCheck;exact rfl))
  refine bodyQ_r2 (by ((conv=>lhs;whnf)<;>exact rfl)) (by ((conv=>lhs;whnf)<;>exact rfl)) ?_
  refine ⟨_, Ent.refl _ _, rfl, .slice a2 (l.length + s.size) c2, ?_⟩
  rw [bytes_app]
  have e : (l ++ s.data.toList).length = l.length + s.size := by rw [List.length_append]; rfl
  rw [e]
  rfl
set_option maxRecDepth 100000 in
set_option maxHeartbeats 4000000 in
theorem bldLen_sat (b : Nat) (p v : Value) (l : List UInt8) (w0 : World) (K : List Res) (hp : bldP b p) :
    SatL Tryd.prog 41 [.pointer (some ⟨b, 0, none⟩)] w0 (bldL b p v l ++ K) (fun u L => u = .int .i64 l.length ∧ L = bldL b p v l ++ K) :=
  ⟨⟨_, _, Tryd.func41, by kernel_rfl, rfl⟩, fun w h => by
    refine (Tryd.Builder_Len w0.heap.size b (Lib.byteCells l) w (bldL_is hp h)).mono ?_
    rintro e w' ⟨rfl, rfl⟩
    exact ⟨_, _, rfl, h, by rw [byteCells_len], rfl⟩⟩
-- Behind String() what the builder holds is not owned any more.
set_option maxRecDepth 100000 in
set_option maxHeartbeats 4000000 in
theorem bldStr_sat (b : Nat) (p v : Value) (l : List UInt8) (w0 : World) (K : List Res) (hp : bldP b p) :
    SatL Tryd.prog 42 [.pointer (some ⟨b, 0, none⟩)] w0 (bldL b p v l ++ K) (fun u L => u = .string (bOf l) ∧ L = []) :=
  ⟨⟨_, _, Tryd.func42, by kernel_rfl, rfl⟩, fun w h => by
    refine (Tryd.Builder_String_any w0.heap.size b l w (bldL_is hp h) h.base).mono ?_
    rintro e w' ⟨rfl, hb⟩
    exact ⟨_, [], rfl, ⟨h.below.trans hb, Nat.le_trans h.base hb.size, fun r hr => absurd hr List.not_mem_nil, List.Pairwise.nil⟩, rfl, rfl⟩⟩
def jnS (xs : List ByteArray) : List UInt8 := Lib.join (xs.map (·.data.toList)) [32]
set_option maxRecDepth 100000 in
set_option maxHeartbeats 4000000 in
theorem join_sat (v : Value) (xs : List ByteArray) (w : World) (h : Strs w v xs) (hl : (jnS xs).length ≤ 140737488355328) : SatV Tryd.prog 40 [v, .string ⟨#[32]⟩] w (.string (bOf (jnS xs))) :=
  Sat.lib ⟨_, _, Tryd.func40, by kernel_rfl, rfl⟩ fun w1 hb => by
    have h := h.below hb
    obtain ⟨⟨hn, ⟨a, cap, rfl, hc⟩, hr⟩, _⟩ := h
    rcases hc with h0 | ⟨b, off, rfl, hc⟩
    · have hx : xs = [] := List.eq_nil_of_length_eq_zero h0
      subst hx
      refine (Tryd.strings_Join_none a cap ⟨#[32]⟩ w1).mono ?_
      rintro e w' ⟨rfl, rfl⟩
      exact ⟨_, [], rfl, Hp.refl _, rfl, rfl⟩
    · by_cases h0 : xs.length = 0
      · have hx : xs = [] := List.eq_nil_of_length_eq_zero h0
        subst hx
        refine (Tryd.strings_Join_none (some ⟨b, off, none⟩) cap ⟨#[32]⟩ w1).mono ?_
        rintro e w' ⟨rfl, rfl⟩
        exact ⟨_, [], rfl, Hp.refl _, rfl, rfl⟩
      have hbk : b < w1.heap.size := by
        have := hc 0 (by omega)
        unfold World.cell? at this
        cases h : w1.heap[b]? with
        | none => simp [h] at this
        | some o => exact (Array.getElem?_eq_some_iff.1 h).1
      refine (Tryd.strings_Join b off cap xs ⟨#[32]⟩ w1 (fun j x hj => ?_) hbk hn (hr _ _ _ rfl) hl).mono ?_
      · have hj2 := (List.getElem?_eq_some_iff.1 hj).1
        rw [hc j (by omega), List.getD_eq_getElem?_getD, hj]
        rfl
      · rintro e w' ⟨rfl, hb2⟩
        exact ⟨_, [], rfl, ⟨hb2, hb2.size, fun r hr => absurd hr List.not_mem_nil, List.Pairwise.nil⟩, rfl, rfl⟩
end Go.Proofs.YtpfemholpigdeaaDoor
namespace Go.Proofs.YtpfemholpigdeaaDoor
def lnP (s : Stem) (i : Nat) : List ByteArray :=
  s.names.getD i ByteArray.empty :: (if s.ext.getD i false = true then w36e else w36l) :: ((if (s.par.getD i []).length = 0 then [] else [w36f]) ++ (s.par.getD i []).map fun p => s.names.getD p.toNat ByteArray.empty)
def jn (ws : List ByteArray) : List UInt8 := Lib.join (ws.map (·.data.toList)) [32]
def lnT (ws : List ByteArray) : List UInt8 := jn ws ++ [10]
def prK (s : Stem) (k : Nat) : List UInt8 := (List.range k).flatMap fun i => lnT (lnP s i)
def prT (s : Stem) : List UInt8 := prK s s.names.length
def prE (s : Stem) : Int := if stCheck s ≠ 0 then 1 else if 65536 < (prT s).length then 4 else 0
theorem prK_step (s : Stem) (k : Nat) : prK s (k + 1) = prK s k ++ lnT (lnP s k) := by
  unfold prK
  rw [List.range_succ, List.flatMap_append]
  simp
theorem jn_one (x : ByteArray) : jn [x] = x.data.toList := Lib.join_one _ _
theorem jn_cons (x y : ByteArray) (r : List ByteArray) : jn (x :: y :: r) = x.data.toList ++ 32 :: jn (y :: r) := by
  unfold jn
  rw [List.map_cons, List.map_cons, Lib.join_cons, Lib.join_cons]
  simp [Lib.joinTail]
theorem wrd_jn : ∀ (x : ByteArray) (r : List ByteArray), (∀ y ∈ x :: r, (32 : UInt8) ∉ y.data.toList) → wrd (jn (x :: r)) = x :: r
  | x, [], h => by
    rw [jn_one]
    unfold wrd
    rw [spl_miss 32 _ (h x List.mem_cons_self)]
    simp [bOf_data]
  | x, y :: r, h => by
    have ih := wrd_jn y r fun z hz => h z (List.mem_cons_of_mem _ hz)
    rw [jn_cons]
    unfold wrd at *
    rw [spl_hit 32 _ _ (h x List.mem_cons_self), List.map_cons, ih, bOf_data]
theorem jn_no {c : UInt8} (hc : c ≠ 32) : ∀ (ws : List ByteArray), (∀ y ∈ ws, c ∉ y.data.toList) → c ∉ jn ws
  | [], _ => by simp [jn, Lib.join_nil]
  | [x], h => by rw [jn_one]; exact h x List.mem_cons_self
  | x :: y :: r, h => by
    rw [jn_cons, List.mem_append, List.mem_cons]
    rintro (h1 | h1 | h1)
    · exact h x List.mem_cons_self h1
    · exact hc h1
    · exact jn_no hc (y :: r) (fun z hz => h z (List.mem_cons_of_mem _ hz)) h1
theorem linW_lines : ∀ (ls : List (List ByteArray)) (rest : List UInt8), (∀ ws ∈ ls, ws ≠ [] ∧ (∀ y ∈ ws, (32 : UInt8) ∉ y.data.toList ∧ (10 : UInt8) ∉ y.data.toList)) → linW (ls.flatMap lnT ++ rest) = ls ++ linW rest
  | [], rest, _ => rfl
  | ws :: ls, rest, h => by
    have ih := linW_lines ls rest fun x hx => h x (List.mem_cons_of_mem _ hx)
    obtain ⟨hn, hw⟩ := h ws List.mem_cons_self
    obtain ⟨x, r, rfl⟩ := List.exists_cons_of_ne_nil hn
    rw [List.flatMap_cons, lnT, List.append_assoc, List.append_assoc]
    show linW (jn (x :: r) ++ 10 :: (ls.flatMap lnT ++ rest)) = _
    rw [linW_hit _ _ (jn_no (by decide) _ fun y hy => (hw y hy).2), ih, wrd_jn x r fun y hy => (hw y hy).1]
    rfl
theorem isNm_all {s : ByteArray} (h : isNm s = true) : 0 < s.size ∧ ∀ c ∈ byts s, alnum c = true := by
  unfold isNm at h
  simp only [Bool.and_eq_true, decide_eq_true_eq] at h
  refine ⟨h.1, ?_⟩
  have h2 := h.2.2
  unfold lets at h2
  rw [← byts_len] at h2
  exact List.countP_eq_length.1 h2
theorem leafNm_all {x : ByteArray} (h : leafNm x = true) : 0 < x.size ∧ ∀ c ∈ byts x, alnum c = true ∨ c = 42 := by
  unfold leafNm at h
  cases hs : starB x with
  | false =>
    rw [hs] at h
    obtain ⟨h1, h2⟩ := isNm_all h
    exact ⟨h1, fun c hc => .inl (h2 c hc)⟩
  | true =>
    rw [hs] at h
    simp only [if_true, Bool.and_eq_true] at h
    obtain ⟨h1, h2⟩ := isNm_all h.2
    have hx : 0 < x.size := by
      rw [ByteArray.size_extract] at h1
      omega
    refine ⟨hx, fun c hc => ?_⟩
    have e : byts (x.extract 0 (x.size - 1)) = (byts x).take (x.size - 1) := by
      unfold byts
      rw [ByteArray.data_extract, Array.toList_extract, List.extract_eq_take_drop]
      rfl
    have hl : (byts x).getLast? = some 42 := by unfold starB at hs; exact beq_iff_eq.1 hs
    have hne : byts x ≠ [] := by intro h0; rw [h0] at hl; cases hl
    rw [List.getLast?_eq_some_getLast hne, Option.some.injEq] at hl
    rw [← List.dropLast_concat_getLast hne, hl, List.mem_append, List.mem_singleton] at hc
    rcases hc with hc | hc
    · left
      refine h2 c ?_
      rw [e, ← byts_len, ← List.dropLast_eq_take]
      exact hc
    · exact .inr hc
theorem leafNm_no {x : ByteArray} (h : leafNm x = true) : x ≠ ByteArray.empty ∧ (32 : UInt8) ∉ byts x ∧ (10 : UInt8) ∉ byts x := by
  obtain ⟨h1, h2⟩ := leafNm_all h
  refine ⟨fun e => (by subst e; cases h1), fun hm => ?_, fun hm => ?_⟩
  · rcases h2 _ hm with h | h
    · revert h; decide
    · revert h; decide
  · rcases h2 _ hm with h | h
    · revert h; decide
    · revert h; decide
theorem stCheck_nm (s : Stem) (h : stCheck s = 0) (k : Nat) (hk : k < s.names.length) : leafNm s.names[k] = true ∧ Lib.containsS (s.names.take k) s.names[k] = false := by
  obtain ⟨_, _, _, hp, hf⟩ := stCheck_len s h
  have h0 := firstErr_zero _ _ hf k hk
  have := stAt_zero s k hk (by omega) h0
  exact ⟨this.1, this.2.1⟩
theorem lnP_words {s : Stem} (hc : stCheck s = 0) (i : Nat) (hi : i < s.names.length) : ∀ y ∈ lnP s i, y ≠ ByteArray.empty ∧ (32 : UInt8) ∉ byts y ∧ (10 : UInt8) ∉ byts y := by
  have hn : ∀ k, k < s.names.length → leafNm (s.names.getD k ByteArray.empty) = true := fun k hk => by
    have := (stCheck_nm s hc k hk).1
    rw [getD_lt _ _ _ hk]; exact this
  have hok := stCheck_okPar s hc
  intro y hy
  unfold lnP at hy
  rcases List.mem_cons.1 hy with h | h
  · subst h; exact leafNm_no (hn i hi)
  rcases List.mem_cons.1 h with h | h
  · split at h
    · subst h; decide
    · subst h; decide
  rcases List.mem_append.1 h with h | h
  · split at h
    · cases h
    · rw [List.mem_singleton] at h; subst h; decide
  · obtain ⟨p, hp, rfl⟩ := List.mem_map.1 h
    have := okPar_getD hok i p hp
    exact leafNm_no (hn p.toNat (by omega))
theorem linW_prT {s : Stem} (hc : stCheck s = 0) : linW (prT s) = (List.range s.names.length).map (lnP s) := by
  have h := linW_lines ((List.range s.names.length).map (lnP s)) [] fun ws hw => by
    obtain ⟨i, hi, rfl⟩ := List.mem_map.1 hw
    exact ⟨by unfold lnP; simp, fun y hy => (lnP_words hc i (List.mem_range.1 hi) y hy).2⟩
  rw [List.append_nil, linW_nil, List.append_nil] at h
  rw [← h]
  congr 1
  unfold prT prK
  rw [List.flatMap_map]
theorem lnP_okL {s : Stem} (hc : stCheck s = 0) (i : Nat) (hi : i < s.names.length) : okL (lnP s i) = true := by
  have hw := lnP_words hc i hi
  unfold okL
  simp only [Bool.and_eq_true, Bool.or_eq_true, decide_eq_true_eq, Bool.not_eq_true']
  refine ⟨by unfold lnP; simp, ?_, ?_, ?_⟩
  · rw [← Bool.not_eq_true, Lib.containsS_iff]
    exact fun h => (hw _ h).1 rfl
  · unfold lnP
    simp only [List.getD_cons_succ, List.getD_cons_zero]
    split
    · exact .inl rfl
    · exact .inr rfl
  · unfold lnP
    by_cases h : (s.par.getD i []).length = 0
    · left
      rw [if_pos h, List.length_eq_zero_iff.1 h]
      simp
    · right
      rw [if_neg h]
      refine ⟨rfl, ?_⟩
      simp only [List.length_cons, List.length_append, List.length_map, List.length_nil]
      omega
theorem names_idx {s : Stem} (hc : stCheck s = 0) (k : Nat) (hk : k < s.names.length) : Lib.idxOfS s.names (s.names.getD k ByteArray.empty) = k := by
  have h := Lib.idxOfS_hit s.names s.names.length k (s.names.getD k ByteArray.empty) hk (Nat.le_refl _) rfl fun j hj he => by
    have h2 := (stCheck_nm s hc k hk).2
    rw [← Bool.not_eq_true, Lib.containsS_iff] at h2
    refine h2 ?_
    rw [← getD_lt _ _ ByteArray.empty hk, ← he]
    have hj2 : j < (s.names.take k).length := by rw [List.length_take];omega
    have := List.getElem_mem hj2
    rw [List.getElem_take] at this
    rwa [getD_lt _ _ _ (by omega)]
  rwa [List.take_length] at h
theorem psS_prT {s : Stem} (hc : stCheck s = 0) : psS (bOf (prT s)) = s := by
  obtain ⟨hn0, hn64, hel, hpl, _⟩ := stCheck_len s hc
  have hok := stCheck_okPar s hc
  have e1 : nmL ((List.range s.names.length).map (lnP s)) = s.names := by
    unfold nmL
    apply List.ext_getElem
    · simp
    · intro i h1 h2
      simp only [List.getElem_map, List.getElem_range]
      unfold lnP
      rw [List.getD_cons_zero, getD_lt _ _ _ h2]
  unfold psS
  rw [data_bOf, linW_prT hc, e1]
  have e2 : exL ((List.range s.names.length).map (lnP s)) = s.ext := by
    unfold exL
    apply List.ext_getElem
    · simp [hel]
    · intro i h1 h2
      simp only [List.getElem_map, List.getElem_range]
      unfold lnP
      simp only [List.getD_cons_succ, List.getD_cons_zero]
      rw [getD_lt _ _ _ h2]
      cases s.ext[i] <;> decide
  have e3 : ((List.range s.names.length).map (lnP s)).map (paL s.names) = s.par := by
    apply List.ext_getElem
    · simp [hpl]
    · intro i h1 h2
      simp only [List.getElem_map, List.getElem_range]
      unfold paL
      have hd : (lnP s i).drop 3 = (s.par.getD i []).map fun p => s.names.getD p.toNat ByteArray.empty := by
        unfold lnP
        by_cases h : (s.par.getD i []).length = 0
        · rw [if_pos h, List.length_eq_zero_iff.1 h]; rfl
        · rw [if_neg h]; rfl
      rw [hd, List.map_map]
      have hi : i < s.par.length := h2
      conv => rhs; rw [← getD_lt s.par i [] hi]
      conv => rhs; rw [← List.map_id (s.par.getD i [])]
      apply List.map_congr_left
      intro p hp
      have := okPar_getD hok i p hp
      show Lib.idxOfS s.names _ = p
      rw [names_idx hc p.toNat (by omega)]
      omega
  rw [e2, e3]
theorem psE_prT {s : Stem} (hc : stCheck s = 0) (hl : (prT s).length ≤ 65536) : psE (bOf (prT s)) = 0 := by
  have h := psS_prT hc
  have hok := stCheck_okPar s hc
  unfold psE
  rw [h, bOf_size, if_neg (by omega), data_bOf, linW_prT hc, if_neg, if_neg, hc]
  · rw [Bool.not_eq_false, List.all_eq_true]
    intro ws hw
    obtain ⟨i, hi, rfl⟩ := List.mem_map.1 hw
    unfold fndB
    rw [List.all_eq_true]
    intro x hx
    rw [Lib.containsS_iff]
    have e1 : nmL ((List.range s.names.length).map (lnP s)) = s.names := by
      have := congrArg Stem.names h
      unfold psS at this
      rwa [data_bOf, linW_prT hc] at this
    rw [e1]
    have hd : (lnP s i).drop 3 = (s.par.getD i []).map fun p => s.names.getD p.toNat ByteArray.empty := by
      unfold lnP
      by_cases h : (s.par.getD i []).length = 0
      · rw [if_pos h, List.length_eq_zero_iff.1 h]; rfl
      · rw [if_neg h]; rfl
    rw [hd] at hx
    obtain ⟨p, hp, rfl⟩ := List.mem_map.1 hx
    have h2 := okPar_getD hok i p hp
    have hi2 := List.mem_range.1 hi
    have h3 : p.toNat < s.names.length := by omega
    rw [getD_lt _ _ _ h3]
    exact List.getElem_mem h3
  · rw [Bool.not_eq_false, List.all_eq_true]
    intro ws hw
    obtain ⟨i, hi, rfl⟩ := List.mem_map.1 hw
    exact lnP_okL hc i (List.mem_range.1 hi)
end Go.Proofs.YtpfemholpigdeaaDoor
