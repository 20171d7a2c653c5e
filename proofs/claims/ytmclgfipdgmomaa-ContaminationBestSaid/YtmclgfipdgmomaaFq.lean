/-
  Rules of the fast walk for maps; a family of rows. No statement of the seat is proved here.
-/
import Derived.Test.YtmclgfipdgmomaaFs
import Derived.Test.YtmclgfipdgmomaaLs
namespace Go.Proofs.Ytmclgfipdgmomaa
open Go.RowKit Go.Maps

section
variable {P : Program} {n : Nat} {w0 : World} {Q : Exit → Fm → List Res → Prop} {K : Fm → List Res → Prop} {F : Fm} {L : List Res} {m : Md} {Lw : List Res} {ops : Array Oper} {rest : List Oper}
  {d : Option Nat} {ty : TypeId} {pos : String} {aft : Array Edge}

/-- 'map[K]V{}'. -/
theorem OKx_mkMap {t : TypeId} (k : TypeId) [hE : Keeps w0 L Lw] (kk : ∀ g, OKx P n w0 (.seq Lw) ops K rest (updo F d (.map (some g))) (.obj g (MapIs P k 0 fun _ => .none) :: L)) :
    OKx P n w0 (.seq Lw) ops K (⟨d, .makeMap t none, ty, pos, aft, none⟩ :: rest) F L := by
  refine OKx_act hE.ent fun w hp => ⟨_, w.alloc (.map #[] 0), _, ?_, hp.mapMade P k, kk w.heap.size⟩
  simp [execOp, run_makeMap, Result.andThen]
/-- 'm[k]'. -/
theorem OKx_look {t k e : TypeId} {x y : Operand} {g c : Nat} {Fk : Lit → Option Value} {key : Value} {kl : Lit} {z v : Value} (i : Nat) (hx : rv n F x = .map (some g)) (hy : rv n F y = key) (hi : L[i]? = some (.obj g (MapIs P k c Fk)))
    (Ky : Keyed P k) (ht : P.underlying t = some (.map k e)) (hz : ∀ w, (zeroValue e).run P w = .ok z w) (hkey : keyOf P k key = some kl) (hl : WideAt.IsKeyLit kl) (hv : (Fk kl).getD z = v)
    (kk : OKx P n w0 m ops K rest (updo F d v) L) : OKx P n w0 m ops K (⟨d, .lookup t x y false, ty, pos, aft, none⟩ :: rest) F L :=
  OKx_still (fun w hp _ _ _ _ => by
    have h := hp.look i hi Ky ht (hz w) hkey hl
    subst hv
    simp [execOp, hx, hy, h, Result.andThen]) kk
/-- 'm[k] = v'. -/
theorem OKx_mapSet {t k e : TypeId} {x y u : Operand} {g c : Nat} {Fk : Lit → Option Value} {key val : Value} {kl : Lit} [hE : Keeps w0 L Lw] (i : Nat) (hx : rv n F x = .map (some g)) (hy : rv n F y = key) (hu : rv n F u = val) (hi : L[i]? = some (.obj g (MapIs P k c Fk)))
    (Ky : Keyed P k) (ht : P.underlying t = some (.map k e)) (hn : c < 9223372036854775807) (hkey : keyOf P k key = some kl) (hl : WideAt.IsKeyLit kl)
    (kk : OKx P n w0 (.seq Lw) ops K rest (updo F d undef) (L.set i (.obj g (MapIs P k (c + 1) (putF Fk kl val))))) : OKx P n w0 (.seq Lw) ops K (⟨d, .mapUpdate t x y u, ty, pos, aft, none⟩ :: rest) F L := by
  refine OKx_act0 hE.ent fun w hp => ?_
  obtain ⟨w', hrun, hp'⟩ := hp.store i hi Ky ht hn (val := val) hkey hl
  refine ⟨w', _, ?_, hp', kk⟩
  simp [execOp, hx, hy, hu, hrun, Result.andThen]
end

/-- One row of numbers for each of n keys. -/
def fam (n : Nat) (V : Nat → Value) (C : Nat → List Int) : List Res := (List.range n).map fun p => irow (V p) (C p)
theorem fam_at (n : Nat) (V : Nat → Value) (C : Nat → List Int) (Z : List Res) (p : Nat) (h : p < n) : (fam n V C ++ Z)[p]? = some (irow (V p) (C p)) := by
  rw [List.getElem?_append_left (by simpa [fam] using h)]
  simp [fam, h]
def setF {α : Type} (f : Nat → α) (p : Nat) (v : α) : Nat → α := fun q => if q = p then v else f q
theorem setF_same {α : Type} (f : Nat → α) (p : Nat) (v : α) : setF f p v p = v := if_pos rfl
theorem setF_other {α : Type} (f : Nat → α) (p q : Nat) (v : α) (h : q ≠ p) : setF f p v q = f q := if_neg h
theorem fam_set (n : Nat) (V : Nat → Value) (C : Nat → List Int) (Z : List Res) (p : Nat) (h : p < n) (v : Value) (xs : List Int) : (fam n V C ++ Z).set p (irow v xs) = fam n (setF V p v) (setF C p xs) ++ Z := by
  rw [List.set_append_left _ _ (by simpa [fam] using h)]
  congr 1
  apply List.ext_getElem (by simp [fam])
  intro i h1 h2
  simp only [fam, List.length_map, List.length_range] at h2
  rw [List.getElem_set]
  simp only [fam, List.getElem_map, List.getElem_range]
  by_cases hi : p = i
  · subst hi
    rw [if_pos rfl, setF_same, setF_same]
  · rw [if_neg hi, setF_other _ _ _ _ (fun e => hi e.symm), setF_other _ _ _ _ (fun e => hi e.symm)]
theorem putF_int (F : Lit → Option Value) (a b : Int) (v : Value) : putF F (.int .i64 a) v (.int .i64 b) = if b = a then some v else F (.int .i64 b) := by
  unfold putF
  by_cases h : b = a
  · subst h
    rw [if_pos (WideAt.sameKey_self (litI b)), if_pos rfl]
  · rw [if_neg h, if_neg (by
      simp only [Lit.sameKey]
      simp
      omega)]
theorem fam_len (n : Nat) (V : Nat → Value) (C : Nat → List Int) : (fam n V C).length = n := by simp [fam]
theorem fam_then (n : Nat) (V : Nat → Value) (C : Nat → List Int) (r : Res) (Z : List Res) : (fam n V C ++ r :: Z)[n]? = some r := by
  rw [List.getElem?_append_right (by rw [fam_len]; exact Nat.le_refl _), fam_len, Nat.sub_self]; rfl
theorem fam_thenSet (n : Nat) (V : Nat → Value) (C : Nat → List Int) (r r' : Res) (Z : List Res) : (fam n V C ++ r :: Z).set n r' = fam n V C ++ r' :: Z := by
  rw [List.set_append_right _ _ (by rw [fam_len]; exact Nat.le_refl _), fam_len, Nat.sub_self]; rfl
theorem Ent.fam {w0 : World} {L : List Res} (n : Nat) : Ent w0 L (Go.Proofs.Ytmclgfipdgmomaa.fam n (fun _ => .slice none 0 0) (fun _ => []) ++ L) := by
  unfold Go.Proofs.Ytmclgfipdgmomaa.fam
  generalize List.range n = l
  refine Ent.mk fun w hp => ?_
  induction l with
  | nil => exact hp
  | cons a l ih => exact ih.nil 3 1
theorem Ent.famSet {w0 : World} {n : Nat} {V : Nat → Value} {C : Nat → List Int} {l r r' : Res} {Z : List Res} : Ent w0 ((l :: (Go.Proofs.Ytmclgfipdgmomaa.fam n V C ++ r :: Z)).set (n + 1) r') (Go.Proofs.Ytmclgfipdgmomaa.fam n V C ++ r' :: Z) := by
  show Ent w0 (l :: (Go.Proofs.Ytmclgfipdgmomaa.fam n V C ++ r :: Z).set n r') _
  rw [fam_thenSet]
  exact Ent.sub (List.sublist_cons_self _ _)
section
variable {n : Nat} {w0 : World} {K : Fm → List Res → Prop} {F : Fm} {m : Md} {Lw : List Res} {ops : Array Oper} {rest : List Oper}
  {d : Option Nat} {ty : TypeId} {pos : String} {aft : Array Edge} {N : Nat} {V : Nat → Value} {C : Nat → List Int} {Z : List Res}
theorem OKx_famApp {s x : Operand} {gl : Nat} {kv : Int} (q : Nat) [hE : Keeps w0 (.row 3 1 (.slice (some ⟨gl, 0, none⟩) 1 1) 1 [.int .i64 kv] :: (fam N V C ++ Z)) Lw] (hq : q < N) (hs : rv n F s = V q) (hx : rv n F x = .slice (some ⟨gl, 0, none⟩) 1 1) (hb : (C q).length ≤ 1000000)
    (kk : ∀ g cap, OKx Try.prog n w0 (.seq Lw) ops K rest (updo F d (.slice (some ⟨g, 0, none⟩) ((C q).length + 1) cap)) (.row 3 1 (.slice (some ⟨gl, 0, none⟩) 1 1) 1 [.int .i64 kv] :: (fam N (setF V q (.slice (some ⟨g, 0, none⟩) ((C q).length + 1) cap)) (setF C q (C q ++ [kv])) ++ Z))) :
    OKx Try.prog n w0 (.seq Lw) ops K (⟨d, .call { callee := .builtin .append, args := #[s, x], argTypes := #[27, 27] }, ty, pos, aft, none⟩ :: rest) F (.row 3 1 (.slice (some ⟨gl, 0, none⟩) 1 1) 1 [.int .i64 kv] :: (fam N V C ++ Z)) := by
  refine OKx_append1 (q + 1) 0 hs hx (fam_at N V C Z q hq) rfl rfl (by omega) (by omega) fun g cap => ?_
  have e : (Res.row 3 1 (.slice (some ⟨gl, 0, none⟩) 1 1) 1 [.int .i64 kv] :: (fam N V C ++ Z)).set (q + 1) (.row 3 1 (.slice (some ⟨g, 0, none⟩) ((C q).length + 1) cap) ((C q).length + 1) (ints (C q) ++ [.int .i64 kv])) =
      .row 3 1 (.slice (some ⟨gl, 0, none⟩) 1 1) 1 [.int .i64 kv] :: (fam N (setF V q (.slice (some ⟨g, 0, none⟩) ((C q).length + 1) cap)) (setF C q (C q ++ [kv])) ++ Z) := by
    rw [← fam_set N V C Z q hq, ints_snoc]
    simp [irow]
  rw [e]
  exact kk g cap
end
end Go.Proofs.Ytmclgfipdgmomaa
