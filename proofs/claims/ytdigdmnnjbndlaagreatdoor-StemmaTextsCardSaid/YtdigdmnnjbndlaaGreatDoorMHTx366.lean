/-
  Part 6 of the proof: Fx, Kind, Char, Name, Leaf, Stem, Stp. No statement of the seat is proved here.
-/
import Derived.Test.YtdigdmnnjbndlaaGreatDoorMHTx365
import Derived.Sort.OwnSortedInts
import Derived.Test.YtdigdmnnjbndlaaGreatDoorRows
import Derived.WalkKit
import Derived.WalkSpells
import Derived.WalkLawsBesides
import Derived.Lib.Hide
import Derived.Deep.Light
import Derived.Deep.QuietTactic
import Derived.BigQuiet
namespace Go.Proofs.YtdigdmnnjbndlaaGreatDoor
open Go.RowKit
theorem Ent.perm {w0 : World} {L L' : List Res} (p : L.Perm L') : Ent w0 L L' := Ent.mk fun _ h => h.perm p.symm
section
variable {P : Program} {n : Nat} {w0 : World} {F : Fm} {L : List Res}
def resIs (P : Program) (n : Nat) (F : Fm) (L : List Res) : ResultVar → Value → Prop
  | .tmp t, v => rv n F (.tmp t) = v
  | .cell t tt, v => ∃ (g i e : Nat) (cs : List Value), rv n F (.tmp t) = .pointer (some ⟨g, 0, none⟩) ∧ L[i]? = some (.box e g cs) ∧ ∀ w : World, (∀ j, w.cell? ⟨g, j, none⟩ = cs[j]?) → (loadVar tt ⟨g, 0, none⟩).run P w = .ok v w
theorem resIs_tmp {t : Nat} {v : Value} (h : rv n F (.tmp t) = v) : resIs P n F L (.tmp t) v := h
theorem resIs_cellA {t tt sz g : Nat} {zs : List Value} [T : TAgg P tt sz zs] (i : Nat) {e : TypeId} {cs : List Value} (h1 : rv n F (.tmp t) = .pointer (some ⟨g, 0, none⟩)) (h2 : L[i]? = some (.box e g cs)) (h3 : cs.length = sz) : resIs P n F L (.cell t tt) (.agg cs.toArray) := by
  refine ⟨g, i, e, cs, h1, h2, fun w hc => ?_⟩
  subst h3
  have := run_cells (P := P) (a := ⟨g, 0, none⟩) (w := w) cs 0 #[] (fun j hj => by rw [Nat.zero_add, add_at, Nat.zero_add]; exact hc j)
  simp [loadVar, Sem.run_bind, T.agg, T.size, Result.andThen, loadCells, this]
def allRes (P : Program) (n : Nat) (F : Fm) (L : List Res) : List ResultVar → List Value → Prop
  | [], [] => True
  | r :: rs, v :: vs => resIs P n F L r v ∧ allRes P n F L rs vs
  | _, _ => False
def packV : List Value → Value
  | [v] => v
  | vs => .tuple vs.toArray
def bodyR (P : Program) (n : Nat) (w0 : World) (rs : List ResultVar) (R : Value → List Res → Prop) : Exit → Fm → List Res → Prop
  | .normal, F, L => marksV (F none) = [] ∧ ∃ vs L', allRes P n F L rs vs ∧ Ent w0 L L' ∧ R (packV vs) L'
  | .ret, F, L => marksV (F none) = [] ∧ ∃ vs L', allRes P n F L rs vs ∧ Ent w0 L L' ∧ R (packV vs) L'
  | _, _, _ => False
theorem mapM_run {w : World} {f : ResultVar → Sem Value} (hf : ∀ r v, resIs P n F L r v → (f r).run P w = .ok v w) : ∀ (rs : List ResultVar) (vs : List Value), allRes P n F L rs vs → (rs.mapM f).run P w = .ok vs w
  | [], [], _ => by simp
  | r :: rs, v :: vs, h => by
    have ih := mapM_run hf rs vs h.2
    rw [List.mapM_cons]
    simp only [Sem.run_bind, Sem.run_pure, Result.andThen, hf r v h.1, ih]
  | [], _ :: _, h => h.elim
  | _ :: _, [], h => h.elim
theorem SatL.ofR {f : FuncId} {fn : Func} {c : Code} {args : List Value} {R : Value → List Res → Prop} (N : Nat) (rs : List ResultVar) (hf : P.funcs[f]? = some fn) (hN : fn.ntmps = N) (hnm : (fn.name == "runtime.NumGoroutine") = false) (hb : fn.body = some c)
    (hres : fn.results = rs.toArray) (hlen : Nat.ble args.length N = true) (h : OK P N w0 (bodyR P N w0 rs R) c (argF args) L) : SatL P f args w0 L R := by
  refine ⟨⟨fn, c, hf, hnm, hb⟩, fun w hp => ?_⟩
  refine calls_of_wp hf hb ?_
  subst hN
  have hlen' : args.length ≤ fn.ntmps := by rwa [Nat.ble_eq] at hlen
  have hfr : Fr fn.ntmps { tmps := args.toArray ++ Array.replicate (fn.ntmps - args.toArray.size) undef, defers := [] } (argF args) := by
    refine ⟨rfl, by simp;omega, fun t ht => ?_⟩
    simp only [Array.getD_eq_getD_getElem?, argF, List.getD_eq_getElem?_getD]
    by_cases h : t < args.length
    · rw [Array.getElem?_append_left (by simpa using h)]
      simp
    · rw [Array.getElem?_append_right (by simpa using Nat.le_of_not_lt h), List.getElem?_eq_none (by omega)]
      simp only [List.size_toArray, Array.getElem?_replicate]
      split <;> rfl
  have key : ∀ (a' : Act) (w' : World) (F' : Fm) (L' : List Res) (vs : List Value), Fr fn.ntmps a' F' → Hp w0.heap.size w0 w' L' → allRes P fn.ntmps F' L' rs vs → (results fn a'.tmps).run P w' = .ok (packV vs) w' := by
    intro a' w' F' L' vs h1 h2 h3
    unfold results
    rw [hres, List.mapM_toArray]
    simp only [Sem.run_bind, Sem.run_map]
    rw [mapM_run (n := fn.ntmps) (F := F') (L := L') ?_ rs vs h3]
    · rcases vs with _ | ⟨v, _ | ⟨v2, vs⟩⟩ <;> simp [packV, Result.andThen]
    · intro r v h
      cases r with
      | tmp t =>
        have he : a'.tmps.getD t undef = v := (congrFun h1.eval (.tmp t)).trans h
        simp only [Sem.run_pure, he]
      | cell t tt =>
        obtain ⟨g, i, e, cs, h2', h3', h4⟩ := h
        have he : a'.tmps.getD t undef = .pointer (some ⟨g, 0, none⟩) := (congrFun h1.eval (.tmp t)).trans h2'
        have h5 := h4 w' (h2.boxAt i h3').1
        simp only [Sem.run_bind, Sem.run_pure, Result.andThen, he, asAddr, h5]
  refine wp_mono (h.use w _ hfr hp) ?_
  rintro e a' w' ⟨F', L', h1, h2, h3⟩
  cases e with
  | normal =>
    obtain ⟨hm, vs, L'', hr, hent, hR⟩ := h3
    exact ⟨h1.defers.trans hm, _, key _ _ _ _ _ h1 h2 hr, _, L'', rfl, hent.use _ h2, hR⟩
  | ret =>
    obtain ⟨hm, vs, L'', hr, hent, hR⟩ := h3
    exact ⟨h1.defers.trans hm, _, key _ _ _ _ _ h1 h2 hr, _, L'', rfl, hent.use _ h2, hR⟩
  | _ => exact h3.elim
theorem bodyR_r1 {r1 : ResultVar} {v1 : Value} {R : Value → List Res → Prop} (h1 : resIs P n F L r1 v1) (h : ∃ L', Ent w0 L L' ∧ R v1 L') (hm : marksV (F none) = [] := by exact rfl) : bodyR P n w0 [r1] R .ret F L :=
  let ⟨L', a, b⟩ := h
  ⟨hm, [v1], L', ⟨h1, trivial⟩, a, b⟩
theorem bodyR_r2 {r1 r2 : ResultVar} {v1 v2 : Value} {R : Value → List Res → Prop} (h1 : resIs P n F L r1 v1) (h2 : resIs P n F L r2 v2) (h : ∃ L', Ent w0 L L' ∧ R (.tuple #[v1, v2]) L') (hm : marksV (F none) = [] := by exact rfl) : bodyR P n w0 [r1, r2] R .ret F L :=
  let ⟨L', a, b⟩ := h
  ⟨hm, [v1, v2], L', ⟨h1, h2, trivial⟩, a, b⟩
theorem bodyR_r3 {r1 r2 r3 : ResultVar} {v1 v2 v3 : Value} {R : Value → List Res → Prop} (h1 : resIs P n F L r1 v1) (h2 : resIs P n F L r2 v2) (h3 : resIs P n F L r3 v3) (h : ∃ L', Ent w0 L L' ∧ R (.tuple #[v1, v2, v3]) L') (hm : marksV (F none) = [] := by exact rfl) : bodyR P n w0 [r1, r2, r3] R .ret F L :=
  let ⟨L', a, b⟩ := h
  ⟨hm, [v1, v2, v3], L', ⟨h1, h2, h3, trivial⟩, a, b⟩
theorem bodyR_r4 {r1 r2 r3 r4 : ResultVar} {v1 v2 v3 v4 : Value} {R : Value → List Res → Prop} (h1 : resIs P n F L r1 v1) (h2 : resIs P n F L r2 v2) (h3 : resIs P n F L r3 v3) (h4 : resIs P n F L r4 v4) (h : ∃ L', Ent w0 L L' ∧ R (.tuple #[v1, v2, v3, v4]) L') (hm : marksV (F none) = [] := by exact rfl) : bodyR P n w0 [r1, r2, r3, r4] R .ret F L :=
  let ⟨L', a, b⟩ := h
  ⟨hm, [v1, v2, v3, v4], L', ⟨h1, h2, h3, h4, trivial⟩, a, b⟩
end
attribute [irreducible] bodyR
section
variable {P : Program} {n : Nat} {w0 : World} {K : Fm → List Res → Prop} {F : Fm} {L : List Res} {Lw : List Res} {ops : Array Oper} {rest : List Oper}
  {d : Option Nat} {ty : TypeId} {pos : String} {aft : Array Edge}
theorem OKx_quoN {m : Md} {t ut : TypeId} {x y : Operand} {a b : Nat} (hx : rv n F x = .int .i64 (a : Int)) (hy : rv n F y = .int .i64 (b : Int)) (hb : 0 < b) (ha : a ≤ 9223372036854775807)
    (k : OKx P n w0 m ops K rest (updo F d (.int .i64 ((a / b : Nat) : Int))) L) : OKx P n w0 m ops K (⟨d, .binOp .quo t x y ut, ty, pos, aft, none⟩ :: rest) F L :=
  OKx_still (fun w _ _ _ _ _ => run_int .quo t x y .i64 a b (by decide) w ut _ _ _ _ _ hx hy (by
    have e : Int.tdiv (a : Int) (b : Int) = ((a / b : Nat) : Int) := (Int.ofNat_tdiv a b).symm
    have hlt : a / b ≤ a := Nat.div_le_self _ _
    generalize a / b = q at *
    have hw : IntKind.i64.wrap (q : Int) = (q : Int) := wrapI _ ⟨by omega, by omega⟩
    have hb0 : ¬ b = 0 := by omega
    simp only [Op.intDiv]
    simp [hb0, e, hw])) k
theorem run_buildG {t sz : Nat} {zs : List Value} (T : TAgg P t sz zs) {offs : List (Nat × Nat)} (S : TStruct P t offs) {parts : Array (Nat × Operand)} {ps : List (Nat × Value)} {cs : Array Value} {ρ : Operand → Value}
    (hv : parts.toList.map (fun x => (x.1, ρ x.2)) = ps) (hf : Instr.fill (offs.toArray[·]?) zs.toArray ps = some cs) (w : World) (dd : Option Nat) (p : String) (af : Array Edge) (g : Option (Nat × Bool)) :
    (execOp ρ ⟨dd, .build t parts, ty, p, af, g⟩).run P w = .ok (.value (.agg cs)) w := by
  have h0 := S.at'
  unfold structOffs at h0
  split at h0
  · rename_i fields hu
    have hund : (underlying t).run P w = .ok (.struct fields) w := by simp [underlying, program, Sem.run_bind, Sem.run, hu, Result.andThen]
    have hpl := run_places w fields.toList offs h0
    have hpl2 : (fields.mapM fun (f : Field) => (do pure (f.offset, ← sizeOf f.type) : Sem (Nat × Nat))).run P w = .ok offs.toArray w := by
      rw [Array.mapM_eq_mapM_toList]
      simp only [Sem.run_map, hpl, Result.andThen]
    have hmap : Array.map (fun x => match x with | (i, x) => (i, ρ x)) parts = parts.map fun x => (x.1, ρ x.2) := rfl
    have hfill : Instr.fill (offs.toArray[·]?) zs.toArray (parts.map fun x => (x.1, ρ x.2)).toList = some cs := by
      rw [Array.toList_map, hv]; exact hf
    simp only [execOp, hmap, Instr.build, Sem.run_bind, T.zero, Result.andThen, Value.cells, hund, hpl2, hfill, Sem.run_pure]
  · cases h0
theorem OKx_buildG {m : Md} {t sz : Nat} {zs : List Value} [T : TAgg P t sz zs] {offs : List (Nat × Nat)} [S : TStruct P t offs] {parts : Array (Nat × Operand)} (ps : List (Nat × Value)) (cs : Array Value)
    (hv : parts.toList.map (fun x => (x.1, rv n F x.2)) = ps) (hf : Instr.fill (offs.toArray[·]?) zs.toArray ps = some cs) (k : OKx P n w0 m ops K rest (updo F d (.agg cs)) L) : OKx P n w0 m ops K (⟨d, .build t parts, ty, pos, aft, none⟩ :: rest) F L :=
  OKx_still (fun w _ _ _ _ _ => run_buildG T S hv hf w _ _ _ _) k
theorem OKx_build0 {m : Md} {t sz : Nat} {zs : List Value} [T : TAgg P t sz zs] {offs : List (Nat × Nat)} [S : TStruct P t offs] (k : OKx P n w0 m ops K rest (updo F d (.agg zs.toArray)) L) : OKx P n w0 m ops K (⟨d, .build t #[], ty, pos, aft, none⟩ :: rest) F L :=
  OKx_buildG [] zs.toArray rfl rfl k
end
def srtL (xs : List Int) : List Int := xs.mergeSort fun x y => decide (x ≤ y)
set_option maxRecDepth 100000 in
set_option maxHeartbeats 4000000 in
theorem sort_int_sat (g cap n : Nat) (xs : List Int) (w0 : World) (L : List Res) (i : Nat) (hxn : xs.length = n) (hi : L[i]? = some (.row 3 1 (.slice (some ⟨g, 0, none⟩) n cap) n (ints xs))) (hx : n ≤ 1000000) :
    SatL Tryz.prog 39 [.slice (some ⟨g, 0, none⟩) n cap] w0 L (fun u L' => u = .tuple #[] ∧ L' = L.set i (.row 3 1 (.slice (some ⟨g, 0, none⟩) n cap) n (ints (srtL xs)))) := by
  subst hxn
  refine ⟨⟨_, _, Tryz.func39, by kernel_rfl, rfl⟩, fun w hp => ?_⟩
  have ho : w.ownsRow w0.heap.size 3 1 (.slice (some ⟨g, 0, none⟩) xs.length cap) xs.length (ints xs) := hp.ok _ (List.mem_of_getElem? hi)
  have hlt := (ho.lt g rfl).2
  rcases ho.2 with ⟨h0, _⟩ | ⟨g', cap', cur, hv, hg, hb, hn, hcap, hsz, htake⟩
  · cases h0
  cases hv
  rw [Nat.mul_one] at htake
  have hsl : (srtL xs).length = xs.length := List.length_mergeSort _
  refine (Tryz.slices_Sort_int g 0 cap xs w (Go.holds_of_blockI hb htake) hlt (by omega)).mono ?_
  rintro e w' ⟨rfl, n, os, rfl⟩
  refine ⟨_, _, rfl, hp.turn hi (r' := .row 3 1 (.slice (some ⟨g, 0, none⟩) xs.length cap) xs.length (ints (srtL xs))) (Go.grownBy_sortedI _) ?_ (fun k hk => .inl hk), rfl, rfl⟩
  exact Go.ownsRow_sortedI (w := w) (n := n) (os := os) (ts := srtL xs) hsl hg hb hn hcap hsz
theorem srtL_mem (xs : List Int) (x : Int) : x ∈ srtL xs ↔ x ∈ xs := (List.mergeSort_perm xs _).mem_iff
theorem srtL_le (xs : List Int) : (srtL xs).Pairwise (· ≤ ·) := by
  have := List.pairwise_mergeSort (le := fun x y : Int => decide (x ≤ y)) (by simp;omega) (by simp;omega) xs
  simpa [srtL] using this
end Go.Proofs.YtdigdmnnjbndlaaGreatDoor
namespace Go.Proofs.YtdigdmnnjbndlaaGreatDoor
open Go.RowKit
theorem kret {a b : Int} (h : a = b) : Ending.returned (.int .i64 a) = .returned (.int .i64 b) := by rw [h]
def kind (n : Int) : Int :=
  if (97 ≤ n ∧ n ≤ 122) ∨ (65 ≤ n ∧ n ≤ 90) then 1
  else if n = 94 ∨ n = 126 ∨ n = 37 then 2
  else if 48 ≤ n ∧ n ≤ 57 then 3
  else if n = 39 then 4
  else if n = 32 then 6
  else if n = 46 ∨ n = 44 ∨ n = 59 ∨ n = 58 ∨ n = 33 ∨ n = 63 ∨ n = 40 ∨ n = 41 ∨ n = 45 then 5
  else 0
theorem punct_at (n : Int) (h0 : 0 ≤ n) (h1 : n ≤ 255) : (0 ≤ Lib.indexByte [46, 44, 59, 58, 33, 63, 40, 41, 45] (UInt8.ofNat n.toNat)) ↔ (n = 46 ∨ n = 44 ∨ n = 59 ∨ n = 58 ∨ n = 33 ∨ n = 63 ∨ n = 40 ∨ n = 41 ∨ n = 45) := by
  obtain ⟨k, rfl⟩ := Int.eq_ofNat_of_zero_le h0
  have hk : k < 256 := by omega
  clear h0 h1
  have : ∀ k : Fin 256, (0 ≤ Lib.indexByte [46, 44, 59, 58, 33, 63, 40, 41, 45] (UInt8.ofNat (k.val : Int).toNat)) ↔ ((k.val : Int) = 46 ∨ (k.val : Int) = 44 ∨ (k.val : Int) = 59 ∨ (k.val : Int) = 58 ∨ (k.val : Int) = 33 ∨ (k.val : Int) = 63 ∨ (k.val : Int) = 40 ∨ (k.val : Int) = 41 ∨ (k.val : Int) = 45) := by decide +kernel
  exact this ⟨k, hk⟩
set_option maxHeartbeats 1000000 in
theorem kind_any (n : Int) (h0 : 0 ≤ n) (h1 : n ≤ 255) (w : World) :
    Calls Tryz.prog 158 #[.int .u8 n] w fun e w' => e = .returned (.int .i64 (kind n)) ∧ w = w' := by
  have HP := Lib.hid (punct_at n h0 h1)
  go_enter Tryz.func158, Tryz.ntmps158
  go_wp2_with (go_at_call 174; refine (Tryz.strings_IndexByte _ _ _).mono ?_; rintro e w' ⟨rfl, rfl⟩)
  all_goals
    go_ret
    refine ⟨kret ?_, rfl⟩
    have hp := HP.out
    try simp only [beq_iff_eq, beq_eq_false_iff_ne, bne_iff_ne, ne_eq, bne_eq_false_iff_eq] at *
    unfold kind
    first | (repeat' split) <;> omega | decide
set_option maxHeartbeats 2000000 in
theorem rkind_any (n : Int) (h0 : 0 ≤ n) (h1 : n ≤ 255) (w : World) :
    Calls Tryz.prog 148 #[.int .u8 n] w fun e w' => e = .returned (.int .i64 (kind n)) ∧ w = w' := by
  go_enter Tryz.func148, Tryz.ntmps148
  go_wp2_with fail
  all_goals
    go_ret
    refine ⟨kret ?_, rfl⟩
    try simp only [beq_iff_eq, beq_eq_false_iff_ne, ne_eq] at *
    unfold kind
    first | (repeat' split) <;> omega | decide
end Go.Proofs.YtdigdmnnjbndlaaGreatDoor
namespace Go.Proofs.YtdigdmnnjbndlaaGreatDoor
open Go.RowKit
abbrev byts (s : ByteArray) : List UInt8 := s.data.toList
theorem byts_len (s : ByteArray) : (byts s).length = s.size := Array.length_toList
theorem byts_at (s : ByteArray) (k : Nat) (h : k < s.size) : (byts s)[k]'(by rw [byts_len]; exact h) = s[k] := rfl
def kindB (c : UInt8) : Int := kind c.toNat
theorem byte_bd (c : UInt8) : (0 : Int) ≤ (c.toNat : Int) ∧ (c.toNat : Int) ≤ 255 := by
  have := c.toNat_lt
  omega
def alnum (c : UInt8) : Bool := kindB c == 1 || kindB c == 3
def lets (l : List UInt8) : Nat := l.countP alnum
theorem lets_take (s : ByteArray) (k : Nat) (h : k < s.size) : lets ((byts s).take (k + 1)) = lets ((byts s).take k) + if alnum s[k] then 1 else 0 := by
  unfold lets
  rw [List.take_succ_eq_append_getElem (by rw [byts_len]; exact h), List.countP_append, byts_at s k h]
  by_cases ha : alnum s[k] = true
  · simp [ha]
  · simp [ha]
theorem lets_le (l : List UInt8) : lets l ≤ l.length := List.countP_le_length
theorem kindB_any (c : UInt8) (w : World) :
    Calls Tryz.prog 158 #[.int .u8 (c.toNat : Int)] w fun e w' => e = .returned (.int .i64 (kindB c)) ∧ w = w' :=
  kind_any _ (byte_bd c).1 (byte_bd c).2 w
theorem rkindB_any (c : UInt8) (w : World) :
    Calls Tryz.prog 148 #[.int .u8 (c.toNat : Int)] w fun e w' => e = .returned (.int .i64 (kindB c)) ∧ w = w' :=
  rkind_any _ (byte_bd c).1 (byte_bd c).2 w
set_option maxHeartbeats 1000000 in
theorem letters_any (s : ByteArray) (w : World) (hs : s.size ≤ 140737488355328) :
    Calls Tryz.prog 135 #[.string s] w fun e w' => e = .returned (.int .i64 (lets (byts s) : Nat)) ∧ w = w' := by
  go_enter Tryz.func135, Tryz.ntmps135
  go_wp2
  go_loop [3, 8] (fun n i => ∃ k : Nat, k ≤ s.size ∧ i = .int .i64 k ∧ n = .int .i64 (lets ((byts s).take k) : Nat)) (fun _ i => s.size - (intOf i).toNat)
  case atStart => exact ⟨0, Nat.zero_le _, rfl, rfl⟩
  case round =>
    obtain ⟨k, hk, rfl, rfl⟩ := hrel
    have hl := lets_le ((byts s).take k)
    have hl2 : ((byts s).take k).length ≤ k := List.length_take_le _ _
    by_cases hlt : k < s.size
    · have HS := Lib.hid (lets_take s k hlt)
      have hkb : alnum s[k] = (kindB s[k] == 1 || kindB s[k] == 3) := rfl
      have HK := Lib.hid hkb
      clear hkb
      go_wp2_with (go_at_call 158; refine (kindB_any _ _).mono ?_; rintro e w' ⟨rfl, rfl⟩)
      all_goals
        go_round
        case rel =>
          refine ⟨k + 1, by omega, by go_num, ?_⟩
          rw [HS.out, HK.out]
          go_light
          clear HS HK
          by_cases h1 : kindB s[k] = 1 <;> by_cases h3 : kindB s[k] = 3 <;> simp_all
        case measure => simp [intOf];omega
    · go_wp2
      go_ret
      exact ⟨ret_int (by rw [List.take_of_length_le (by rw [byts_len];omega)]), rfl⟩
set_option maxHeartbeats 1000000 in
theorem rletters_any (s : ByteArray) (w : World) (hs : s.size ≤ 140737488355328) :
    Calls Tryz.prog 122 #[.string s] w fun e w' => e = .returned (.int .i64 (lets (byts s) : Nat)) ∧ w = w' := by
  go_enter Tryz.func122, Tryz.ntmps122
  go_wp2
  go_loop [3, 4] (fun n i => ∃ k : Nat, k ≤ s.size ∧ i = .int .i64 k ∧ n = .int .i64 (lets ((byts s).take k) : Nat)) (fun _ i => s.size - (intOf i).toNat)
  case atStart => exact ⟨0, Nat.zero_le _, rfl, rfl⟩
  case round =>
    obtain ⟨k, hk, rfl, rfl⟩ := hrel
    have hl := lets_le ((byts s).take k)
    have hl2 : ((byts s).take k).length ≤ k := List.length_take_le _ _
    by_cases hlt : k < s.size
    · have HS := Lib.hid (lets_take s k hlt)
      have hkb : alnum s[k] = (kindB s[k] == 1 || kindB s[k] == 3) := rfl
      have HK := Lib.hid hkb
      clear hkb
      go_wp2_with (go_at_call 148; refine (rkindB_any _ _).mono ?_; rintro e w' ⟨rfl, rfl⟩)
      all_goals
        go_round
        case rel =>
          refine ⟨k + 1, by omega, by go_num, ?_⟩
          rw [HS.out, HK.out]
          go_light
          clear HS HK
          by_cases h1 : kindB s[k] = 1 <;> by_cases h3 : kindB s[k] = 3 <;> simp_all
        case measure => simp [intOf];omega
    · go_wp2
      go_ret
      exact ⟨ret_int (by rw [List.take_of_length_le (by rw [byts_len];omega)]), rfl⟩
theorem toList_nil (s : ByteArray) : s.toList = [] ↔ s.size = 0 := by
  rw [ByteArray.toList_eq]
  show byts s = [] ↔ s.size = 0
  rw [← List.length_eq_zero_iff, byts_len]
def isNm (s : ByteArray) : Bool := decide (0 < s.size) && (decide (s.size ≤ 16) && decide (lets (byts s) = s.size))
set_option maxHeartbeats 1000000 in
theorem isName_any (s : ByteArray) (w : World) (hs : s.size ≤ 140737488355328) :
    Calls Tryz.prog 103 #[.string s] w fun e w' => e = .returned (.bool (isNm s)) ∧ w = w' := by
  go_enter Tryz.func103, Tryz.ntmps103
  go_wp2_with (go_at_call 135; refine (letters_any _ _ hs).mono ?_; rintro e w' ⟨rfl, rfl⟩)
  · go_ret
    refine ⟨ret_bool ?_, rfl⟩
    have h0 := (toList_nil s).1 ‹_›
    simp [isNm, h0]
  · go_ret
    refine ⟨ret_bool ?_, rfl⟩
    have h0 : ¬ s.size = 0 := fun h => absurd ((toList_nil s).2 h) ‹_›
    have h1 : (s.size : Int) ≤ 16 := ‹_›
    have h2 : s.toList.isEmpty = false := by
      cases hh : s.toList with
      | nil => exact absurd ((toList_nil s).1 hh) h0
      | cons _ _ => rfl
    rw [h2, isNm, decide_eq_true (show 0 < s.size by omega), decide_eq_true (show s.size ≤ 16 by omega)]
    simp only [Bool.true_and, Bool.not_false]
    rw [Bool.eq_iff_iff]
    simp only [beq_iff_eq, decide_eq_true_eq]
    omega
  · go_ret
    refine ⟨ret_bool ?_, rfl⟩
    have h1 : 16 < (s.size : Int) := ‹_›
    rw [isNm, decide_eq_false (show ¬ s.size ≤ 16 by omega)]
    simp
end Go.Proofs.YtdigdmnnjbndlaaGreatDoor
namespace Go.Proofs.YtdigdmnnjbndlaaGreatDoor
open Go.RowKit
set_option maxRecDepth 100000 in
set_option maxHeartbeats 2000000 in
theorem right_any (s : ByteArray) (w : World) (hs : s.size ≤ 65536) :
    Calls Tryz.prog 162 #[.string s] w fun e w' => ∃ v bs, e = .returned v ∧ bs.length = s.size ∧ Hp w.heap.size w w' [.row 4 1 v s.size (bools bs)] := by
  go_enter Tryz.func162, Tryz.ntmps162
  go_wp2
  go_loopw [3, 4] (fun v i wr => ∃ (k : Nat) (bs : List Bool), k ≤ s.size ∧ i = .int .i64 k ∧ bs.length = k ∧ Hp w.heap.size w wr [.row 4 1 v k (bools bs)])
     (fun _ i _ => s.size - (intOf i).toNat)
  case atStart => exact ⟨0, [], by omega, rfl, rfl, (Hp.refl w).lit 4 1 #[] 0 (by decide) rfl⟩
  case round =>
    obtain ⟨k, bs, hk, rfl, hbs, hp⟩ := hrel
    have HB := Lib.hid hbs; clear hbs
    by_cases hlt : k < s.size
    · by_cases hk0 : 0 < k
      · obtain ⟨g, c, rfl⟩ := hp.rowForm 0 rfl hk0
        obtain ⟨rc, rf, rb, rl⟩ := hp.rowAt 0 rfl
        have e0 := rc (k - 1) (by omega)
        rw [bools_get _ _ (by rw [HB.out];omega)] at e0
        clear rc rf
        generalize bs.getD (k - 1) false = b0 at *
        go_wp2_with (first
          | (go_at_call 148; refine (rkindB_any _ _).mono ?_; rintro e w' ⟨rfl, rfl⟩)
          | (at_builtin; refine wpList_append1_new rfl (.tmp 12) (.tmp 37) 31 rfl TBools hp 0 rfl rfl rfl rfl (by omega) (by omega) ?_; intro g1 c1 w1 hp1))
        all_goals
          go_roundw
          case rel =>
            refine ⟨k + 1, _, by omega, by go_num, ?_, by rw [← bools_snoc]; exact hp1⟩
            rw [List.length_append, HB.out]; rfl
          case measure => simp [intOf];omega
      · go_wp2_with (first
          | (go_at_call 148; refine (rkindB_any _ _).mono ?_; rintro e w' ⟨rfl, rfl⟩)
          | (at_builtin; refine wpList_append1_new rfl (.tmp 12) (.tmp 37) 31 rfl TBools hp 0 rfl rfl rfl rfl (by omega) (by omega) ?_; intro g1 c1 w1 hp1))
        all_goals
          go_roundw
          case rel =>
            refine ⟨k + 1, _, by omega, by go_num, ?_, by rw [← bools_snoc]; exact hp1⟩
            rw [List.length_append, HB.out]; rfl
          case measure => simp [intOf];omega
    · obtain rfl : k = s.size := by omega
      go_wp2
      go_ret
      exact ⟨_, _, rfl, HB.out, hp⟩
def Alln (s : ByteArray) : Prop := ∀ k, (h : k < s.size) → kindB s[k] = 1 ∨ kindB s[k] = 3
def ChkP (s : ByteArray) (w : World) (e : Ending) (w' : World) : Prop := ∃ n : Int, e = .returned (.int .i64 n) ∧ Hp w.heap.size w w' [] ∧ (Alln s → n = 0)
set_option maxRecDepth 100000 in
set_option maxHeartbeats 2000000 in
theorem rcheck_any (s : ByteArray) (w : World) (hs : s.size ≤ 65536) :
    Calls Tryz.prog 147 #[.string s] w (ChkP s w) := by
  go_enter Tryz.func147, Tryz.ntmps147
  go_wp2_with fail
  refine (right_any _ _ hs).mono ?_
  rintro e w1 ⟨v, bs, rfl, hbs, hp⟩
  have HB := Lib.hid hbs; clear hbs
  obtain ⟨a, cap, rfl, ha, _⟩ := hp.rowShape 0 rfl
  have HA := Lib.hid ha; clear ha
  go_wp2_with fail
  go_loop [4] (fun i => ∃ (k : Nat), k ≤ s.size ∧ i = .int .i64 k) (fun i => s.size - (intOf i).toNat)
  case atStart => exact ⟨0, by omega, rfl⟩
  case round =>
    obtain ⟨k, hk, rfl⟩ := hrel
    by_cases hlt : k < s.size
    · obtain ⟨g, rfl⟩ := HA.out (by omega)
      obtain ⟨rc, rf, rb, rl⟩ := hp.rowAt 0 rfl
      have e0 := rc k (by omega)
      rw [bools_get _ _ (by rw [HB.out];omega)] at e0
      clear rc rf
      generalize bs.getD k false = b0 at *
      have hno : (kindB s[k] = 0 ∨ kindB s[k] = 2) → ¬ Alln s := fun h ha => by
        have := ha k hlt
        omega
      have HNO := Lib.hid hno; clear hno
      go_wp2_with (go_at_call 148; refine (rkindB_any _ _).mono ?_; rintro e w' ⟨rfl, rfl⟩)
      · go_ret
        exact ⟨11, rfl, hp.none, fun h => absurd h (HNO.out (.inl ‹_›))⟩
      · go_ret
        exact ⟨11, rfl, hp.none, fun h => absurd h (HNO.out (.inr ‹_›))⟩
      all_goals
        go_round
        case rel => exact ⟨k + 1, by omega, by go_num⟩
        case measure => simp [intOf];omega
    · go_wp2_with fail
      go_ret
      exact ⟨0, rfl, hp.none, fun _ => rfl⟩
def WordP (s : ByteArray) (w : World) (e : Ending) (w' : World) : Prop := ∃ b : Bool, e = .returned (.bool b) ∧ Hp w.heap.size w w' [] ∧ (Alln s → 0 < s.size → s.size ≤ 64 → b = true) ∧ (s.size = 0 → b = false)
set_option maxRecDepth 100000 in
set_option maxHeartbeats 2000000 in
theorem rword_any (s : ByteArray) (w : World) (hs : s.size ≤ 140737488355328) :
    Calls Tryz.prog 121 #[.string s] w (WordP s w) := by
  by_cases h0 : s.size = 0
  · have h0' : s.size < 1 := by omega
    have H0 := Lib.hid h0; clear h0
    go_enter Tryz.func121, Tryz.ntmps121
    go_wp2_with fail
    go_ret
    exact ⟨false, rfl, Hp.refl _, fun _ h _ => absurd H0.out (by omega), fun _ => rfl⟩
  · by_cases h64 : s.size ≤ 64
    · go_enter Tryz.func121, Tryz.ntmps121
      go_wp2_with fail
      refine (rcheck_any _ _ (by omega)).mono ?_
      rintro e w1 ⟨n, rfl, hp, hn⟩
      have HN := Lib.hid hn; clear hn
      by_cases hn0 : n = 0
      · subst hn0
        have h00 : 0 < s.size := by omega
        by_cases h1 : kindB s[0] = 1
        · have e1 : (kindB s[0] != 1) = false := by simpa using h1
          have H1 := Lib.hid h1; clear h1
          go_wp2_with (go_at_call 148; refine (rkindB_any _ _).mono ?_; rintro e w' ⟨rfl, rfl⟩)
          go_loop [4] (fun i => ∃ (k : Nat), k ≤ s.size ∧ i = .int .i64 k) (fun i => s.size - (intOf i).toNat)
          case atStart => exact ⟨0, by omega, rfl⟩
          case round =>
            obtain ⟨k, hk, rfl⟩ := hrel
            by_cases hlt : k < s.size
            · have hno : 4 < kindB s[k] → ¬ Alln s := fun h ha => by
                have := ha k hlt
                omega
              have HNO := Lib.hid hno; clear hno
              go_wp2_with (go_at_call 148; refine (rkindB_any _ _).mono ?_; rintro e w' ⟨rfl, rfl⟩)
              · go_ret
                exact ⟨false, rfl, hp.none, fun h _ _ => absurd h (HNO.out ‹_›), fun _ => rfl⟩
              · go_round
                case rel => exact ⟨k + 1, by omega, by go_num⟩
                case measure => simp [intOf];omega
            · go_wp2_with fail
              go_ret
              exact ⟨true, rfl, hp.none, fun _ _ _ => rfl, fun h => absurd h (by omega)⟩
        · have e1 : (kindB s[0] != 1) = true := by simpa using h1
          by_cases h3 : kindB s[0] = 3
          · have e3 : (kindB s[0] != 3) = false := by simpa using h3
            have H1 := Lib.hid h1; clear h1
            have H3 := Lib.hid h3; clear h3
            go_wp2_with (go_at_call 148; refine (rkindB_any _ _).mono ?_; rintro e w' ⟨rfl, rfl⟩)
            go_loop [4] (fun i => ∃ (k : Nat), k ≤ s.size ∧ i = .int .i64 k) (fun i => s.size - (intOf i).toNat)
            case atStart => exact ⟨0, by omega, rfl⟩
            case round =>
              obtain ⟨k, hk, rfl⟩ := hrel
              by_cases hlt : k < s.size
              · have hno : 4 < kindB s[k] → ¬ Alln s := fun h ha => by
                  have := ha k hlt
                  omega
                have HNO := Lib.hid hno; clear hno
                go_wp2_with (go_at_call 148; refine (rkindB_any _ _).mono ?_; rintro e w' ⟨rfl, rfl⟩)
                · go_ret
                  exact ⟨false, rfl, hp.none, fun h _ _ => absurd h (HNO.out ‹_›), fun _ => rfl⟩
                · go_round
                  case rel => exact ⟨k + 1, by omega, by go_num⟩
                  case measure => simp [intOf];omega
              · go_wp2_with fail
                go_ret
                exact ⟨true, rfl, hp.none, fun _ _ _ => rfl, fun h => absurd h (by omega)⟩
          · have e3 : (kindB s[0] != 3) = true := by simpa using h3
            have hno : ¬ Alln s := fun ha => by
              have := ha 0 h00
              omega
            have HNO := Lib.hid hno; clear hno h1 h3
            go_wp2_with (go_at_call 148; refine (rkindB_any _ _).mono ?_; rintro e w' ⟨rfl, rfl⟩)
            go_ret
            exact ⟨false, rfl, hp.none, fun h _ _ => absurd h HNO.out, fun _ => rfl⟩
      · have hb : (n != 0) = true := by simpa using hn0
        go_wp2_with fail
        go_ret
        exact ⟨false, rfl, hp.none, fun h _ _ => absurd (HN.out h) hn0, fun _ => rfl⟩
    · go_enter Tryz.func121, Tryz.ntmps121
      go_wp2_with fail
      go_ret
      exact ⟨false, rfl, Hp.refl _, fun _ _ h => absurd h h64, fun _ => rfl⟩
theorem alln_lets (s : ByteArray) (h : lets (byts s) = s.size) : Alln s := by
  intro k hk
  have h1 : lets (byts s) = (byts s).length := by rw [byts_len]; exact h
  unfold lets at h1
  have h2 := List.countP_eq_length.1 h1 s[k] (by
    have : (byts s)[k]'(by rw [byts_len]; exact hk) ∈ byts s := List.getElem_mem _
    exact this)
  unfold alnum at h2
  simpa using h2
set_option maxRecDepth 100000 in
set_option maxHeartbeats 2000000 in
theorem rname_any (s : ByteArray) (w : World) (hs : s.size ≤ 140737488355328) :
    Calls Tryz.prog 81 #[.string s] w fun e w' => e = .returned (.bool (isNm s)) ∧ Hp w.heap.size w w' [] := by
  by_cases h16 : s.size ≤ 16
  · go_enter Tryz.func81, Tryz.ntmps81
    go_wp2_with fail
    refine (rword_any _ _ hs).mono ?_
    rintro e w1 ⟨b, rfl, hp, h1, h2⟩
    have H1 := Lib.hid h1; clear h1
    have H2 := Lib.hid h2; clear h2
    cases b with
    | false =>
      go_wp2_with fail
      go_ret
      refine ⟨ret_bool ?_, hp.none⟩
      cases hb : isNm s with
      | false => rfl
      | true =>
        simp only [isNm, Bool.and_eq_true, decide_eq_true_eq] at hb
        exact H1.out (alln_lets s hb.2.2) hb.1 (by omega)
    | true =>
      have h0 : 0 < s.size := by
        rcases Nat.eq_zero_or_pos s.size with h | h
        · exact absurd (H2.out h) (by simp)
        · exact h
      go_wp2_with (go_at_call 122; refine (rletters_any _ _ hs).mono ?_; rintro e w' ⟨rfl, rfl⟩)
      go_ret
      refine ⟨ret_bool ?_, hp.none⟩
      rw [isNm, decide_eq_true h0, decide_eq_true h16]
      simp only [Bool.true_and]
      rw [Bool.eq_iff_iff]
      simp only [beq_iff_eq, decide_eq_true_eq]
      omega
  · go_enter Tryz.func81, Tryz.ntmps81
    go_wp2_with fail
    go_ret
    refine ⟨ret_bool ?_, Hp.refl _⟩
    rw [isNm, decide_eq_false h16]
    simp
end Go.Proofs.YtdigdmnnjbndlaaGreatDoor
namespace Go.Proofs.YtdigdmnnjbndlaaGreatDoor
open Go.RowKit
def starB (s : ByteArray) : Bool := (byts s).getLast? == some 42
theorem starB_at (s : ByteArray) (h : 0 < s.size) : starB s = ((s[s.size - 1].toNat : Int) == 42) := by
  unfold starB
  have hl := byts_len s
  rw [List.getLast?_eq_getElem?, hl, List.getElem?_eq_getElem (by omega), byts_at s (s.size - 1) (by omega)]
  rw [Bool.eq_iff_iff]
  simp only [beq_iff_eq, Option.some.injEq]
  constructor
  · intro e; rw [e]; rfl
  · intro e
    apply UInt8.toNat_inj.1
    show _ = 42
    omega
theorem starB_nil (s : ByteArray) (h : s.size = 0) : starB s = false := by
  unfold starB
  have : byts s = [] := List.eq_nil_of_length_eq_zero (by rw [byts_len]; exact h)
  rw [this]; rfl
def leafNm (s : ByteArray) : Bool := if starB s then decide (s.size ≤ 16) && isNm (s.extract 0 (s.size - 1)) else isNm s
theorem extract_size (s : ByteArray) (n : Nat) (h : n ≤ s.size) : (s.extract 0 n).size = n := by
  rw [ByteArray.size_extract];omega
set_option maxRecDepth 100000 in
set_option maxHeartbeats 1000000 in
theorem leafName_any (s : ByteArray) (w : World) (hs : s.size ≤ 140737488355328) :
    Calls Tryz.prog 65 #[.string s] w fun e w' => e = .returned (.bool (leafNm s)) ∧ w = w' := by
  by_cases h0 : 0 < s.size
  · have hx := extract_size s (s.size - 1) (by omega)
    have HX := Lib.hid hx; clear hx
    have hst := starB_at s h0
    cases hb : starB s with
    | true =>
      rw [hb] at hst
      have hc : ((s[s.size - 1].toNat : Int) == 42) = true := hst.symm
      clear hst
      have HB := Lib.hid hb; clear hb
      by_cases h16 : s.size ≤ 16
      · go_enter Tryz.func65, Tryz.ntmps65
        go_wp2_with (go_at_call 103; refine (isName_any _ _ (by rw [HX.out];omega)).mono ?_; rintro e w' ⟨rfl, rfl⟩)
        go_ret
        exact ⟨ret_bool (by rw [leafNm, if_pos HB.out, decide_eq_true h16]; simp), rfl⟩
      · go_enter Tryz.func65, Tryz.ntmps65
        go_wp2_with fail
        go_ret
        exact ⟨ret_bool (by rw [leafNm, if_pos HB.out, decide_eq_false h16]; simp), rfl⟩
    | false =>
      rw [hb] at hst
      have hc : ((s[s.size - 1].toNat : Int) == 42) = false := hst.symm
      clear hst
      have HB := Lib.hid hb; clear hb
      go_enter Tryz.func65, Tryz.ntmps65
      go_wp2_with (go_at_call 103; refine (isName_any _ _ hs).mono ?_; rintro e w' ⟨rfl, rfl⟩)
      go_ret
      exact ⟨ret_bool (by rw [leafNm, if_neg (by rw [HB.out]; simp)]), rfl⟩
  · have hb := starB_nil s (by omega)
    have HB := Lib.hid hb; clear hb
    go_enter Tryz.func65, Tryz.ntmps65
    go_wp2_with (go_at_call 103; refine (isName_any _ _ hs).mono ?_; rintro e w' ⟨rfl, rfl⟩)
    go_ret
    exact ⟨ret_bool (by rw [leafNm, if_neg (by rw [HB.out]; simp)]), rfl⟩
set_option maxRecDepth 100000 in
set_option maxHeartbeats 1000000 in
theorem named_any (s : ByteArray) (w : World) (hs : s.size ≤ 140737488355328) :
    Calls Tryz.prog 48 #[.string s] w fun e w' => e = .returned (.bool (leafNm s)) ∧ Hp w.heap.size w w' [] := by
  by_cases h0 : 1 < s.size
  · have hx := extract_size s (s.size - 1) (by omega)
    have HX := Lib.hid hx; clear hx
    have hst := starB_at s (by omega)
    cases hb : starB s with
    | true =>
      rw [hb] at hst
      have hc : ((s[s.size - 1].toNat : Int) == 42) = true := hst.symm
      clear hst
      have HB := Lib.hid hb; clear hb
      by_cases h16 : s.size ≤ 16
      · go_enter Tryz.func48, Tryz.ntmps48
        go_wp2_with (go_at_call 81; refine (rname_any _ _ (by rw [HX.out];omega)).mono ?_; rintro e w' ⟨rfl, hp⟩)
        go_ret
        exact ⟨ret_bool (by rw [leafNm, if_pos HB.out, decide_eq_true h16]; simp), hp⟩
      · go_enter Tryz.func48, Tryz.ntmps48
        go_wp2_with fail
        go_ret
        exact ⟨ret_bool (by rw [leafNm, if_pos HB.out, decide_eq_false h16]; simp), Hp.refl _⟩
    | false =>
      rw [hb] at hst
      have hc : ((s[s.size - 1].toNat : Int) == 42) = false := hst.symm
      clear hst
      have HB := Lib.hid hb; clear hb
      go_enter Tryz.func48, Tryz.ntmps48
      go_wp2_with (go_at_call 81; refine (rname_any _ _ hs).mono ?_; rintro e w' ⟨rfl, hp⟩)
      go_ret
      exact ⟨ret_bool (by rw [leafNm, if_neg (by rw [HB.out]; simp)]), hp⟩
  · have hb : leafNm s = isNm s := by
      unfold leafNm
      cases hs : starB s with
      | false => rfl
      | true =>
        have h1 : s.size = 1 := by
          rcases Nat.eq_zero_or_pos s.size with h | h
          · rw [starB_nil s h] at hs; cases hs
          · omega
        have h2 : isNm (s.extract 0 (s.size - 1)) = false := by
          rw [isNm, extract_size s _ (by omega), h1]; rfl
        have h3 : isNm s = false := by
          have e : byts s = [42] := by
            have hl := byts_len s
            unfold starB at hs
            match hb : byts s with
            | [] => rw [hb] at hl; simp at hl;omega
            | [c] => rw [hb] at hs; simp at hs; rw [hs]
            | _ :: _ :: _ => rw [hb] at hl; simp at hl;omega
          have e2 : lets (byts s) = 0 := by rw [e]; decide
          rw [isNm, e2, h1]; rfl
        rw [h2, h3]; simp
    have HB := Lib.hid hb; clear hb
    go_enter Tryz.func48, Tryz.ntmps48
    go_wp2_with (go_at_call 81; refine (rname_any _ _ hs).mono ?_; rintro e w' ⟨rfl, hp⟩)
    go_ret
    exact ⟨ret_bool HB.out.symm, hp⟩
end Go.Proofs.YtdigdmnnjbndlaaGreatDoor
namespace Go.Proofs.YtdigdmnnjbndlaaGreatDoor
open Go.RowKit
def firstErr (f : Nat → Int) : Nat → Int
  | 0 => 0
  | n + 1 => if firstErr f n ≠ 0 then firstErr f n else f n
theorem firstErr_hit (f : Nat → Int) (k n : Nat) (h0 : firstErr f k = 0) (h1 : f k ≠ 0) (hk : k < n) : firstErr f n = f k := by
  induction n with
  | zero => omega
  | succ n ih =>
    rw [firstErr]
    rcases Nat.lt_or_ge k n with h | h
    · rw [ih h, if_pos h1]
    · obtain rfl : n = k := by omega
      rw [if_neg (by rw [h0]; simp)]
theorem firstErr_step (f : Nat → Int) (k : Nat) (h0 : firstErr f k = 0) (h1 : f k = 0) : firstErr f (k + 1) = 0 := by
  rw [firstErr, if_neg (by rw [h0]; simp), h1]
theorem firstErr_zero (f : Nat → Int) (n : Nat) (h : firstErr f n = 0) : ∀ k, k < n → f k = 0 := by
  induction n with
  | zero => intro k hk;omega
  | succ n ih =>
    rw [firstErr] at h
    by_cases h0 : firstErr f n = 0
    · rw [if_neg (by rw [h0]; simp)] at h
      intro k hk
      rcases Nat.lt_or_ge k n with h1 | h1
      · exact ih h0 k h1
      · obtain rfl : k = n := by omega
        exact h
    · rw [if_pos h0] at h; exact absurd h h0
def incB (xs : List Int) : Bool := decide (xs.Pairwise (· < ·))
theorem incB_of (xs : List Int) (h : ∀ j, 1 ≤ j → (hj : j < xs.length) → xs[j - 1] < xs[j]) : incB xs = true := by
  have key : ∀ d i, (hi : i + d + 1 < xs.length) → xs[i]'(by omega) < xs[i + d + 1] := by
    intro d
    induction d with
    | zero => intro i hi; have := h (i + 1) (by omega) hi; simpa using this
    | succ d ih =>
      intro i hi
      have h1 := ih i (by omega)
      have h2 := h (i + (d + 1) + 1) (by omega) hi
      simp only [Nat.add_sub_cancel] at h2
      have e : xs[i + (d + 1)]'(by omega) = xs[i + d + 1]'(by omega) := rfl
      omega
  unfold incB
  rw [decide_eq_true_eq, List.pairwise_iff_getElem]
  intro i j hi hj hij
  obtain ⟨d, rfl⟩ : ∃ d, j = i + d + 1 := ⟨j - i - 1, by omega⟩
  exact key d i hj
theorem incB_not (xs : List Int) (k : Nat) (h1 : 1 ≤ k) (hk : k < xs.length) (h : xs[k] ≤ xs[k - 1]) : incB xs = false := by
  unfold incB
  rw [decide_eq_false_iff_not, List.pairwise_iff_getElem]
  intro hp
  have := hp (k - 1) k (by omega) hk (by omega)
  omega
def rngB (xs : List Int) (i : Nat) : Bool := xs.any fun p => decide (p < 0) || decide ((i : Int) ≤ p)
def stAt (s : Stem) (i : Nat) : Int :=
  if leafNm (s.names.getD i ByteArray.empty) = false then 14
  else if Lib.containsS (s.names.take i) (s.names.getD i ByteArray.empty) = true then 7
  else if rngB (s.par.getD i []) i = true then 2
  else if incB (s.par.getD i []) = false then 10 else 0
def stCheck (s : Stem) : Int :=
  if s.names.length = 0 then 5 else if 64 < s.names.length then 4
  else if s.ext.length ≠ s.names.length ∨ s.par.length ≠ s.names.length then 9
  else firstErr (stAt s) s.names.length
theorem Strs.take {w : World} {a : Option Addr} {n cap : Nat} {xs : List ByteArray} (h : Strs w (.slice a n cap) xs) (k cap' : Nat) (hk : k ≤ xs.length) (hcap : k ≤ cap') : Strs w (.slice a k cap') (xs.take k) := by
  obtain ⟨⟨hl, ⟨a', c', hv, hc⟩, _⟩, h2⟩ := h
  simp only [Value.slice.injEq] at hv
  obtain ⟨rfl, rfl, rfl⟩ := hv
  have hlen : (xs.take k).length = k := by rw [List.length_take];omega
  refine ⟨⟨by omega, ⟨a, cap', by rw [hlen], ?_⟩, fun a1 m c hv => ?_⟩, fun s hs => h2 s (List.mem_of_mem_take hs)⟩
  case refine_2 =>
    simp only [Value.slice.injEq] at hv
    omega
  rw [hlen]
  rcases hc with h0 | ⟨b, off, ha, hc⟩
  · left;omega
  · right
    refine ⟨b, off, ha, fun j hj => ?_⟩
    rw [hc j (by omega)]
    have : (xs.take k).getD j ByteArray.empty = xs.getD j ByteArray.empty := by
      simp only [List.getD_eq_getElem?_getD, List.getElem?_take, if_pos (show j < k by omega)]
    rw [this]
set_option maxHeartbeats 1000000 in
theorem check1_any (x i : Int) (a : Addr) (w : World) (ha : w.cell? a = some (.int .i64 i)) :
    Calls Tryz.prog 67 #[.int .i64 x, .pointer (some a)] w fun e w' => e = .returned (.bool (decide (x < 0) || decide (i ≤ x))) ∧ w = w' := by
  by_cases h : x < 0
  · go_enter Tryz.func67, Tryz.ntmps67
    go_wp2
    go_ret
    exact ⟨ret_bool (by simp [h]), rfl⟩
  · by_cases h2 : i ≤ x
    · go_enter Tryz.func67, Tryz.ntmps67
      go_wp2
      go_ret
      exact ⟨ret_bool (by simp [h2]), rfl⟩
    · go_enter Tryz.func67, Tryz.ntmps67
      go_wp2
      go_ret
      exact ⟨ret_bool (by simp [h, h2]), rfl⟩
theorem check1_pred (i : Nat) (a : Addr) (w : World) (xs : List Int) (ha : w.cell? a = some (.int .i64 i)) : PredI 67 #[.pointer (some a)] w xs (fun p => decide (p < 0) || decide ((i : Int) ≤ p)) :=
  ⟨enters_of Tryz.func67 (by kernel_rfl) rfl, fun x _ w1 hq => (check1_any x i a w1 ((hq.cell a).trans ha)).mono fun e w' ⟨h1, h2⟩ => ⟨h1, Quiet.of_eq h2⟩⟩
theorem range_any (v : Value) (xs : List Int) (i : Nat) (a : Addr) (w : World) (h : Ints w v xs) (ha : w.cell? a = some (.int .i64 i)) :
    Calls Tryz.prog 66 #[v, .func (.func 67) #[] #[.pointer (some a)]] w fun e w' => e = .returned (.bool (rngB xs i)) ∧ Quiet w w' :=
  containsFunc_int v xs _ _ _ w h (check1_pred i a w xs ha)
end Go.Proofs.YtdigdmnnjbndlaaGreatDoor
namespace Go.Proofs.YtdigdmnnjbndlaaGreatDoor
def okPar (par : List (List Int)) : Prop := ∀ i, (h : i < par.length) → ∀ p ∈ par[i], 0 ≤ p ∧ p < i
theorem stCheck_len (s : Stem) (h : stCheck s = 0) : s.names.length ≠ 0 ∧ s.names.length ≤ 64 ∧ s.ext.length = s.names.length ∧ s.par.length = s.names.length ∧ firstErr (stAt s) s.names.length = 0 := by
  unfold stCheck at h
  by_cases h0 : s.names.length = 0
  · rw [if_pos h0] at h;omega
  rw [if_neg h0] at h
  by_cases h64 : 64 < s.names.length
  · rw [if_pos h64] at h;omega
  rw [if_neg h64] at h
  by_cases hl : s.ext.length ≠ s.names.length ∨ s.par.length ≠ s.names.length
  · rw [if_pos hl] at h;omega
  rw [if_neg hl] at h
  exact ⟨h0, by omega, by omega, by omega, h⟩
theorem stAt_zero (s : Stem) (i : Nat) (hi : i < s.names.length) (hp : i < s.par.length) (h : stAt s i = 0) :
    leafNm s.names[i] = true ∧ Lib.containsS (s.names.take i) s.names[i] = false ∧ (∀ p ∈ s.par[i], 0 ≤ p ∧ p < i) ∧ s.par[i].Pairwise (· < ·) := by
  have hst : stAt s i = if leafNm s.names[i] = false then 14 else if Lib.containsS (s.names.take i) s.names[i] = true then 7 else if rngB s.par[i] i = true then 2 else if incB s.par[i] = false then 10 else 0 := by
    rw [stAt]; simp [hi, hp]
  rw [hst] at h
  cases h1 : leafNm s.names[i] with
  | false => rw [if_pos h1] at h;omega
  | true =>
    rw [if_neg (by rw [h1]; simp)] at h
    cases h2 : Lib.containsS (s.names.take i) s.names[i] with
    | true => rw [if_pos h2] at h;omega
    | false =>
      rw [if_neg (by rw [h2]; simp)] at h
      cases h3 : rngB s.par[i] i with
      | true => rw [if_pos h3] at h;omega
      | false =>
        rw [if_neg (by rw [h3]; simp)] at h
        cases h4 : incB s.par[i] with
        | false => rw [if_pos h4] at h;omega
        | true =>
          refine ⟨rfl, rfl, fun p hp => ?_, by simpa [incB] using h4⟩
          rw [rngB, List.any_eq_false] at h3
          have := h3 p hp
          simp at this
          omega
theorem stCheck_okPar (s : Stem) (h : stCheck s = 0) : okPar s.par := by
  obtain ⟨_, _, _, hp, hf⟩ := stCheck_len s h
  intro i hi p hpi
  have h0 := firstErr_zero _ _ hf i (by omega)
  exact (stAt_zero s i (by omega) hi h0).2.2.1 p hpi
theorem asc_ge (xs : List Int) (h : xs.Pairwise (· < ·)) (h0 : ∀ x ∈ xs, 0 ≤ x) : ∀ (j : Nat) (hj : j < xs.length), (j : Int) ≤ xs[j] := by
  intro j
  induction j with
  | zero => intro hj; exact h0 _ (List.getElem_mem hj)
  | succ j ih =>
    intro hj
    have a := ih (by omega)
    have b := List.pairwise_iff_getElem.1 h j (j + 1) (by omega) hj (by omega)
    omega
theorem asc_len (xs : List Int) (h : xs.Pairwise (· < ·)) (n : Nat) (h0 : ∀ x ∈ xs, 0 ≤ x ∧ x < n) : xs.length ≤ n := by
  by_cases hl : xs.length = 0
  · omega
  have a := asc_ge xs h (fun x hx => (h0 x hx).1) (xs.length - 1) (by omega)
  have b := (h0 _ (List.getElem_mem (show xs.length - 1 < xs.length by omega))).2
  omega
theorem stCheck_inc (s : Stem) (h : stCheck s = 0) : ∀ i, i < s.par.length → (s.par.getD i []).Pairwise (· < ·) := by
  obtain ⟨_, _, _, hp, hf⟩ := stCheck_len s h
  intro i hi
  have h0 := firstErr_zero _ _ hf i (by omega)
  unfold stAt at h0
  split at h0
  · omega
  split at h0
  · omega
  split at h0
  · omega
  split at h0
  · omega
  · rename_i h1
    simpa [incB] using h1
end Go.Proofs.YtdigdmnnjbndlaaGreatDoor
